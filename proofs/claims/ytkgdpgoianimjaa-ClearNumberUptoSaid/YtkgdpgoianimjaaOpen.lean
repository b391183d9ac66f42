/- From what a row reads of its arguments to the kinds' own words: what is read of a type is of the type's kind, its numbers are of their kinds, its bulk is at least the kind's own measure. Nothing is assumed. -/
import Derived.Test.YtkgdpgoianimjaaRows
import Derived.Test.YtkgdpgoianimjaaWWords
import Derived.ChangeArms
import Derived.WideShapes
import Derived.SizedLaws
import Derived.OpenShut
namespace Go.Proofs.Ytkgdpgoianimjaa.Opn
open Go.RowKit Go.WideShapes Go.ChangeShapes Go.Proofs.YtkgdpgoianimjaaW.PrintWords
set_option linter.unusedVariables false
set_option linter.unusedSimpArgs false

structure Opens (P : Program) (t : TypeId) {α : Type} (d : Kd α) (wf : α → Prop) (bulk : α → Nat) : Prop where
  out : ∀ {H : Type} {enc : TypeId × Value → H} {w : World} {base : Nat} {sp : Nat → Bool} {held : Bool} {fuel : Nat} {cs : List Value} {x : DataW H × List MemPlace},
    DataW.trod enc P w base sp held fuel t cs = some x → ∃ a, d.K w a cs ∧ wf a ∧ bulk a ≤ Rows.uptoBulk x.1
structure OpensF (P : Program) (off : Nat) (fs : List Field) {α : Type} (d : Kd α) (wf : α → Prop) (bulk : α → Nat) : Prop where
  out : ∀ {H : Type} {enc : TypeId × Value → H} {w : World} {base : Nat} {sp : Nat → Bool} {held : Bool} {n : Nat} {cs : List Value} {xs : List (DataW H × List MemPlace)},
    xs.length = fs.length → (∀ (i : Nat) (f : Field), fs[i]? = some f → DataW.trod enc P w base sp held n f.type ((cs.drop f.offset).take (P.cellsOf f.type)) = xs[i]?) →
    ∃ a, d.K w a ((cs.drop off).take d.sz) ∧ wf a ∧ bulk a ≤ Rows.uptoBulkAll (xs.map (·.1))

section
variable {P : Program} {t e : TypeId} {α β : Type} {d : Kd α} {wf : α → Prop} {bulk : α → Nat}
theorem opens_int {k : IntKind} (hu : P.underlying t = some (.int k)) : Opens P t (Kd.int k) (fun a => (Lit.int k a).wf = true) (fun _ => 1) :=
  ⟨fun h => by
    obtain ⟨n, rfl, rfl, hw⟩ := DataW.trod_int hu h
    exact ⟨n, rfl, hw, by simp [Rows.uptoBulk]⟩⟩
theorem opens_string (hu : P.underlying t = some .string) : Opens P t Kd.string (fun a => a.size ≤ maxLen) (fun a => a.size + 1) :=
  ⟨fun h => by
    obtain ⟨s, rfl, rfl, hs⟩ := DataW.trod_string hu h
    exact ⟨s, rfl, hs, by simp [Rows.uptoBulk, data_length]⟩⟩

theorem add_add (a : Addr) (i j : Nat) : (a.add i).add j = a.add (i + j) := by
  unfold Addr.add
  by_cases h1 : i = 0 <;> by_cases h2 : j = 0 <;> simp [h1, h2, Nat.add_assoc]

theorem opensF_one {off : Nat} {f : Field} (ho : f.offset = off) (hc : P.cellsOf f.type = d.sz) (h : Opens P f.type d wf bulk) : OpensF P off [f] d wf bulk :=
  ⟨fun {H enc w base sp held n cs xs} hl hx => by
    obtain ⟨x, rfl⟩ : ∃ x, xs = [x] := by
      match xs, hl with
      | [x], _ => exact ⟨x, rfl⟩
    have h0 := hx 0 f rfl
    rw [ho, hc] at h0
    obtain ⟨a, hK, hw, hb⟩ := h.out (x := x) h0
    exact ⟨a, hK, hw, by simpa [Rows.uptoBulkAll] using hb⟩⟩
theorem opensF_cons {off : Nat} {f : Field} {fs : List Field} {d2 : Kd β} {wf2 : β → Prop} {bulk2 : β → Nat} (ho : f.offset = off) (hc : P.cellsOf f.type = d.sz) (h : Opens P f.type d wf bulk) (h2 : OpensF P (off + d.sz) fs d2 wf2 bulk2) :
    OpensF P off (f :: fs) (Kd.pair d d2) (fun x => wf x.1 ∧ wf2 x.2) (fun x => bulk x.1 + bulk2 x.2) :=
  ⟨fun {H enc w base sp held n cs xs} hl hx => by
    obtain ⟨x, ys, rfl⟩ : ∃ x ys, xs = x :: ys := by
      match xs, hl with
      | x :: ys, _ => exact ⟨x, ys, rfl⟩
    have h0 := hx 0 f rfl
    rw [ho, hc] at h0
    obtain ⟨a, hK, hw, hb⟩ := h.out (x := x) h0
    obtain ⟨b, hK2, hw2, hb2⟩ := h2.out (cs := cs) (xs := ys) (by simpa using hl) (fun i g hg => by simpa using hx (i + 1) g (by simpa using hg))
    refine ⟨(a, b), ⟨(cs.drop off).take d.sz, (cs.drop (off + d.sz)).take d2.sz, ?_, hK, hK2⟩, ⟨hw, hw2⟩, ?_⟩
    · show (cs.drop off).take (d.sz + d2.sz) = _
      rw [List.take_add, List.drop_drop]
    · simp only [List.map_cons, Rows.uptoBulkAll]
      omega⟩
theorem opens_struct {fs : Array Field} {l : List Field} (hu : P.underlying t = some (.struct fs)) (hfs : fs.toList = l) (hc : P.cellsOf t = d.sz) (h : OpensF P 0 l d wf bulk) (f : β → α) (g : α → β) (hfg : ∀ a, f (g a) = a) :
    Opens P t (Kd.iso d f) (fun b => wf (f b)) (fun b => bulk (f b) + 1) :=
  ⟨fun {H enc w base sp held fuel cs x} ht => by
    subst hfs
    obtain ⟨xs, n, _, rfl, hcl, hxl, hall⟩ := DataW.trod_struct hu ht
    obtain ⟨a, hK, hw, hb⟩ := h.out (cs := cs) (xs := xs) (by simpa using hxl) (fun i f hf => hall i f (by simpa using hf))
    have hcs : (cs.drop 0).take d.sz = cs := by rw [List.drop_zero, List.take_of_length_le (by omega)]
    rw [hcs] at hK
    refine ⟨g a, ?_, ?_, ?_⟩
    · show d.K w (f (g a)) cs
      rw [hfg]; exact hK
    · show wf (f (g a))
      rw [hfg]; exact hw
    · show bulk (f (g a)) + 1 ≤ _
      rw [hfg]
      simp only [Rows.uptoBulk]
      omega⟩

section
variable {H : Type} {enc : TypeId × Value → H} {W : World} {r : Reach} {b0 : Nat} {v : Value} {x : DataW H} {ps : List MemPlace}
/-- A struct that is an argument. -/
theorem open_record {fs : Array Field} (hu : P.underlying t = some (.struct fs)) (h : Opens P t d wf bulk) (hval : Value.okWide P W r b0 t v) (ht : DataW.Trod enc P W 0 (fun _ => true) true t v x ps) :
    ∃ (a : α) (cs : Array Value), v = .agg cs ∧ d.K W a cs.toList ∧ wf a ∧ bulk a ≤ Rows.uptoBulk x := by
  obtain ⟨fuel, hf⟩ := ht
  have hv := hval
  unfold Value.okWide at hv
  simp only [hu] at hv
  obtain ⟨cs, rfl, _, _⟩ := hv
  obtain ⟨a, hK, hw, hb⟩ := h.out hf
  exact ⟨a, cs, rfl, hK, hw, hb⟩
theorem arr_of {cs : Array Value} {l : List Value} (h : cs.toList = l) : cs = l.toArray := by
  subst h
  simp
end
end
end Go.Proofs.Ytkgdpgoianimjaa.Opn
