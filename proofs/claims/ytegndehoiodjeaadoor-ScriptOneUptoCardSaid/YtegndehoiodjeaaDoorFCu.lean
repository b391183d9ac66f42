/- strings.Cut as the library's text has it: its contract in the kinds' own words. -/
import Derived.Test.YtegndehoiodjeaaDoorFTs
namespace Go.Proofs.YtegndehoiodjeaaDoor.Print
open Go.RowKit Go.Proofs.YtegndehoiodjeaaDoorW.PrintWords Go.Proofs.YtegndehoiodjeaaDoorW.PrintLast Go.Proofs.YtegndehoiodjeaaDoorW.PrintMore
set_option linter.unusedVariables false
set_option linter.unusedSimpArgs false

def strings_Cut.f (a0 a1 : ByteArray) : Option (ByteArray × ByteArray × Bool) :=
  if a0.size < 4294967281 then some (⟨(Lib.cut a0.data.toList a1.data.toList).1.toArray⟩, ⟨(Lib.cut a0.data.toList a1.data.toList).2.1.toArray⟩, (Lib.cut a0.data.toList a1.data.toList).2.2) else none
theorem strings_Cut.calls (a0 a1 r1 r2 : ByteArray) (r3 : Bool) (w : World) (hT : Tabs w) (h : strings_Cut.f a0 a1 = some (r1, r2, r3)) :
    Calls Tryd.prog 18 #[.string a0, .string a1] w fun e w' => e = .returned (.tuple #[.string r1, .string r2, .bool r3]) ∧ Below w.heap.size w w' := by
  unfold strings_Cut.f at h
  split at h
  · rename_i hs
    obtain ⟨⟨m, hm⟩, _⟩ := hT
    have h1 := Option.some.inj h
    obtain ⟨e1, h2⟩ := Prod.mk.inj h1
    obtain ⟨e2, e3⟩ := Prod.mk.inj h2
    refine (Tryd.strings_Cut a0 a1 m w hs hm).mono fun e w' ⟨he, n, hw⟩ => ⟨by rw [he, e1, e2, e3], ?_⟩
    rw [hw]
    exact Drawn0.below ⟨⟨n, rfl⟩⟩
  · cases h
end Go.Proofs.YtegndehoiodjeaaDoor.Print
