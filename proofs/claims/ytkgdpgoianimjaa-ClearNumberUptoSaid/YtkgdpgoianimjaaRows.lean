/-
  No cell of these rows narrows 'for every input' (looked for: loops, veiled, ifaces, maps, wideKeys, modest, calm, conditions, laid).
  DERIVED. THE GIVEN ROWS OF THIS SEAT. 3 by the template 'for every input the law returns true; each argument reads behind the call as it read before'; 0 by the template 'total and deterministic' (their statements: YtkgdpgoianimjaaTotals.lean).
  GIVEN WITH THE SEED: the statements are not yours to turn. If you find one false, say at which input.
  Laid BY PROGRAM, IN A SANDBOX (cutbox-rows.mjs): the forced cells as the released guide's own fill.sh prints them over the translation 92fd4ca6bcfc4354… (all of the seat's roots in one cut). By AI agents, Wed Nov 11 2026. No macro, syntax, notation, axiom, sorry.
-/
import Derived.Test.YtkgdpgoianimjaaChecked
import GoSem.Claim
import GoSem.ClaimJoined
import GoSem.ClaimMapViews
import Derived.JoinedTies
import Derived.KernelRfl
namespace Go.Proofs.Ytkgdpgoianimjaa
/- THE CELL 'sum', in the pinned program and in every row, IS THE sha256 OF THE DUMP (.gsa) THAT YtkgdpgoianimjaaProg.lean LOADS. Nothing in Lean hashes anything: it is a label: what it is worth is what the hold of that sum in a sandbox is worth. -/
noncomputable def Try.pinned : Pinned := { name := "ytkgdpgoianimjaa", sum := "92fd4ca6bcfc435457a3f3885c9f15f60ebfb46e3c34a42c03d13071a7def602", checked := Try.checked }
namespace Rows
def none {H : Type} : Left H := { results := [], args := [] }

/-- 'figureheadlaw21.ClearTells': WHATEVER THE INPUT: true; the input reads as it did. -/
def clearTellsSpec : ChangeSpec := { name := "clearTells", fn := fun _ => fun
  | [d1, d2] => { results := [.lit (.bool true)], args := [d1, d2] }
  | _ => none }
def clearTellsRow : OpenClaim := { program := "ytkgdpgoianimjaa", sum := "92fd4ca6bcfc435457a3f3885c9f15f60ebfb46e3c34a42c03d13071a7def602", func := "figurehead/figureheadlaw21.ClearTells", spec := "clearTells", inPlace := ["internal/abi.NoEscape"], unfollowed := true, recurses := true, apart := false }
def ClearTellsSaid : Prop := clearTellsRow.holds Try.pinned (OpenSpec.ofChange clearTellsSpec)

/-- ITS FALSE NEIGHBOUR: 'it returns false'. Refute it at one input. -/
def clearTellsWrong : ChangeSpec := { name := "clearTells", fn := fun _ => fun
  | [d1, d2] => { results := [.lit (.bool false)], args := [d1, d2] }
  | _ => none }
def ClearTellsWrongFalsely : Prop := clearTellsRow.holds Try.pinned (OpenSpec.ofChange clearTellsWrong)

/-- 'figureheadlaw21.ClearTwo': WHATEVER THE INPUT: true; the input reads as it did. -/
def clearTwoSpec : ChangeSpec := { name := "clearTwo", fn := fun _ => fun
  | [d1, d2] => { results := [.lit (.bool true)], args := [d1, d2] }
  | _ => none }
def clearTwoRow : OpenClaim := { program := "ytkgdpgoianimjaa", sum := "92fd4ca6bcfc435457a3f3885c9f15f60ebfb46e3c34a42c03d13071a7def602", func := "figurehead/figureheadlaw21.ClearTwo", spec := "clearTwo", inPlace := ["internal/abi.NoEscape"], unfollowed := true, recurses := true, apart := false }
def ClearTwoSaid : Prop := clearTwoRow.holds Try.pinned (OpenSpec.ofChange clearTwoSpec)

/-- ITS FALSE NEIGHBOUR: 'it returns false'. Refute it at one input. -/
def clearTwoWrong : ChangeSpec := { name := "clearTwo", fn := fun _ => fun
  | [d1, d2] => { results := [.lit (.bool false)], args := [d1, d2] }
  | _ => none }
def ClearTwoWrongFalsely : Prop := clearTwoRow.holds Try.pinned (OpenSpec.ofChange clearTwoWrong)

/-- 'figureheadlaw21.ClearNumber': WHATEVER THE INPUT: true; the input reads as it did. -/
def clearNumberSpec : ChangeSpec := { name := "clearNumber", fn := fun _ => fun
  | [d1, d2, d3] => { results := [.lit (.bool true)], args := [d1, d2, d3] }
  | _ => none }
def clearNumberRow : OpenClaim := { program := "ytkgdpgoianimjaa", sum := "92fd4ca6bcfc435457a3f3885c9f15f60ebfb46e3c34a42c03d13071a7def602", func := "figurehead/figureheadlaw21.ClearNumber", spec := "clearNumber", inPlace := ["internal/abi.NoEscape"], unfollowed := true, recurses := true, apart := false }
def ClearNumberSaid : Prop := clearNumberRow.holds Try.pinned (OpenSpec.ofChange clearNumberSpec)

/-- ITS FALSE NEIGHBOUR: 'it returns false'. Refute it at one input. -/
def clearNumberWrong : ChangeSpec := { name := "clearNumber", fn := fun _ => fun
  | [d1, d2, d3] => { results := [.lit (.bool false)], args := [d1, d2, d3] }
  | _ => none }
def ClearNumberWrongFalsely : Prop := clearNumberRow.holds Try.pinned (OpenSpec.ofChange clearNumberWrong)

/- THE SECOND FORM. 'bulk': how many values and letters a reading holds, each counted each time it is reached (what is shared counts as often as it is met; a slice's spare places count too). A statement '..UptoSaid' is the law's where the arguments, and the package variables that the reading takes, are together of bulk at most 1048576: NARROWER than '..Said'. Prove '..Said' where nothing that the law and all that it calls make is longer than what came in: it says more and counts as full. Else prove '..UptoSaid'. A law counts once. -/
mutual
def uptoBulk {H : Type} : DataW H → Nat
  | .lit (.string bytes) => bytes.length + 1
  | .lit _ => 1
  | .nil => 1
  | .ptr d => uptoBulk d + 1
  | .slice elems spare => uptoBulkAll elems + uptoBulkAll spare + 1
  | .agg parts => uptoBulkAll parts + 1
  | .iface _ d => uptoBulk d + 1
  | .map entries => uptoBulkEntries entries + 1
  | .held _ => 1
def uptoBulkAll {H : Type} : List (DataW H) → Nat
  | [] => 0
  | d :: r => uptoBulk d + uptoBulkAll r
def uptoBulkEntries {H : Type} : List (Lit × DataW H) → Nat
  | [] => 0
  | x :: r => uptoBulkEntry x + uptoBulkEntries r
def uptoBulkEntry {H : Type} : Lit × DataW H → Nat
  | (.string bytes, d) => bytes.length + uptoBulk d + 1
  | (_, d) => uptoBulk d + 1
 end
def uptoSmall : (H : Type) → List (DataW H) → Bool := fun _ ds => decide (uptoBulkAll ds ≤ 1048576)
def OpenSpec.upto (s : _root_.Go.ChangeSpec) : _root_.Go.OpenSpec := { _root_.Go.OpenSpec.ofChange s with cond := some uptoSmall }

/-- 'figureheadlaw21.ClearTells', WHERE WHAT IT READS IS OF BULK AT MOST 1048576: true; the input reads as it did. -/
def clearTellsUptoRow : OpenClaim := { program := "ytkgdpgoianimjaa", sum := "92fd4ca6bcfc435457a3f3885c9f15f60ebfb46e3c34a42c03d13071a7def602", func := "figurehead/figureheadlaw21.ClearTells", spec := "clearTells", inPlace := ["internal/abi.NoEscape"], unfollowed := true, recurses := true, apart := false, narrowed := true }
def ClearTellsUptoSaid : Prop := clearTellsUptoRow.holds Try.pinned (OpenSpec.upto clearTellsSpec)

/-- 'figureheadlaw21.ClearTwo', WHERE WHAT IT READS IS OF BULK AT MOST 1048576: true; the input reads as it did. -/
def clearTwoUptoRow : OpenClaim := { program := "ytkgdpgoianimjaa", sum := "92fd4ca6bcfc435457a3f3885c9f15f60ebfb46e3c34a42c03d13071a7def602", func := "figurehead/figureheadlaw21.ClearTwo", spec := "clearTwo", inPlace := ["internal/abi.NoEscape"], unfollowed := true, recurses := true, apart := false, narrowed := true }
def ClearTwoUptoSaid : Prop := clearTwoUptoRow.holds Try.pinned (OpenSpec.upto clearTwoSpec)

/-- 'figureheadlaw21.ClearNumber', WHERE WHAT IT READS IS OF BULK AT MOST 1048576: true; the input reads as it did. -/
def clearNumberUptoRow : OpenClaim := { program := "ytkgdpgoianimjaa", sum := "92fd4ca6bcfc435457a3f3885c9f15f60ebfb46e3c34a42c03d13071a7def602", func := "figurehead/figureheadlaw21.ClearNumber", spec := "clearNumber", inPlace := ["internal/abi.NoEscape"], unfollowed := true, recurses := true, apart := false, narrowed := true }
def ClearNumberUptoSaid : Prop := clearNumberUptoRow.holds Try.pinned (OpenSpec.upto clearNumberSpec)

end Rows
end Go.Proofs.Ytkgdpgoianimjaa
