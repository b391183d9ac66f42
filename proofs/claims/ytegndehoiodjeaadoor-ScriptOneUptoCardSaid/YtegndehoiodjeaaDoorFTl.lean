/- Out of a row's list of variables: what the contracts on numbers' texts and on cuts ask of a world. -/
import Derived.Test.YtegndehoiodjeaaDoorFTs
import Derived.Lib.LaidU8
import Derived.OpenShut
namespace Go.Proofs.YtegndehoiodjeaaDoor.Print
open Go.RowKit Go.Lib Go.Proofs.YtegndehoiodjeaaDoorW.PrintWords Go.Proofs.YtegndehoiodjeaaDoorW.PrintLast Go.Proofs.YtegndehoiodjeaaDoorW.PrintMore
set_option linter.unusedVariables false
set_option linter.unusedSimpArgs false

/-- An error's variable that reads as an error holds an interface value. -/
theorem err_reads {w : World} {n : String} {g : Nat} {t : TypeId} {ms : Array (String × TypeId)} {nm : String} {d : DataW Unit} (hg : Tryd.prog.globalNamed n = some g) (hty : (Tryd.prog.globals[g]?).map (·.type) = some t) (hu : Tryd.prog.underlying t = some (.interface ms)) (h : VarReads Tryd.prog w n (.iface nm d)) : ErrVar g w := by
  obtain ⟨g', t', cs, fuel, p, hg', hty', hvar, hd⟩ := h
  obtain rfl := Option.some.inj (hg.symm.trans hg')
  obtain rfl := Option.some.inj (hty.symm.trans hty')
  have hc := World.var?_cell hg hvar 0
  cases fuel with
  | zero => simp [DataW.trod] at hd
  | succ fuel =>
    simp only [DataW.trod, hu] at hd
    generalize hl : cs.toList = l at hd
    match l, hd with
    | [], hd => simp at hd
    | v :: r, hd =>
      match r, hd with
      | [], hd =>
        have hcv : cs[0]? = some v := by
          have : cs.toList[0]? = some v := by rw [hl]; rfl
          simpa using this
        rw [hcv] at hc
        cases v with
        | iface te pe => exact ⟨te, pe, hc⟩
        | nilIface => simp at hd
        | _ => simp at hd
      | a :: b, hd => cases v <;> simp at hd
theorem tab_reads {w : World} {name : String} {k : IntKind} {zs : List Int} {g : Nat} {t e : TypeId} {n : Nat}
    (hg : Tryd.prog.globalNamed name = some g) (hty : (Tryd.prog.globals[g]?).map (·.type) = some t) (ht : Tryd.prog.underlying t = some (.array n e)) (he : Tryd.prog.underlying e = some (.int k)) (hce : Tryd.prog.cellsOf e = 1) (hct : Tryd.prog.cellsOf t = n)
    (h : VarReads Tryd.prog w name (tabData k zs)) : TabIs Tryd.prog w name k zs := by
  obtain ⟨g', t', cs, fuel, p, hg', ht', hvar, hd⟩ := h
  obtain rfl := Option.some.inj (hg.symm.trans hg')
  obtain rfl := Option.some.inj (hty.symm.trans ht')
  unfold TabIs
  rw [hvar, ← cells_of_tab ht he hce hct hd]
theorem pow_data : (Rows.laid_internal_strconv_uint64pow10 : DataW Unit) = tabData .u64 Lib.pow10Tab := by kernel_rfl
/-- Out of a row's list. -/
theorem Tabs_laid {w : World} {l : List (String × DataW Unit)} (hSh : w.ShapedOpen Tryd.prog) (h : laidMet Tryd.prog l w) (h1 : ("math/bits.deBruijn32tab", Rows.laid_math_bits_deBruijn32tab) ∈ l) (h2 : ("math/bits.deBruijn64tab", Rows.laid_math_bits_deBruijn64tab) ∈ l) (h3 : ("internal/strconv.uint64pow10", Rows.laid_internal_strconv_uint64pow10) ∈ l) (h4 : ("unicode/utf8.acceptRanges", Rows.laid_unicode_utf8_acceptRanges) ∈ l) (h5 : ("strconv.ErrRange", Rows.laid_strconv_ErrRange) ∈ l) (h6 : ("strconv.ErrSyntax", Rows.laid_strconv_ErrSyntax) ∈ l) (h7 : ("unicode/utf8.first", Rows.laid_unicode_utf8_first) ∈ l) : Tabs w :=
  ⟨Tryd.laysM145.s1_3 w hSh,
   tab_reads (g := 3) (by kernel_rfl) (by kernel_rfl) Tryd.underlying113 Tryd.underlying60 (by kernel_rfl) (by kernel_rfl) (pow_data ▸ laidMet.reads h h3),
   err_reads (by kernel_rfl) (by kernel_rfl) Tryd.underlying54 (laidMet.reads h h6),
   err_reads (by kernel_rfl) (by kernel_rfl) Tryd.underlying54 (laidMet.reads h h5)⟩
end Go.Proofs.YtegndehoiodjeaaDoor.Print
