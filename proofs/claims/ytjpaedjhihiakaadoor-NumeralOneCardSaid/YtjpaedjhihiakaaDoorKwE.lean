/-
  What a tied row's own world gives: the error of strconv as it is listed.
-/
import Derived.Test.YtjpaedjhihiakaaDoorKw
import Derived.LaidLaws
namespace Go.Proofs.YtjpaedjhihiakaaDoor
open Go.ChangeShapes Go.WideShapes Go.ChangeAt Go.RowKit
set_option linter.unusedVariables false
set_option maxRecDepth 100000

abbrev listed (r : List (String × DataW Unit)) : List (String × DataW Unit) := ("math/bits.deBruijn32tab", Rows.laid_math_bits_deBruijn32tab) :: ("math/bits.deBruijn64tab", Rows.laid_math_bits_deBruijn64tab) :: ("internal/strconv.uint64pow10", Rows.laid_internal_strconv_uint64pow10) ::
  ("unicode/utf8.acceptRanges", Rows.laid_unicode_utf8_acceptRanges) :: ("strconv.ErrRange", Rows.laid_strconv_ErrRange) :: ("strconv.ErrSyntax", Rows.laid_strconv_ErrSyntax) :: r
theorem star05 : "*" ++ "errors.errorString" = "*errors.errorString" := by decide
theorem row_es (u : TypeId) (h : Tryd.prog.typeName? 3 u = some "*errors.errorString") : u = 185 :=
  typeName_ptr_named (nm := "errors.errorString") (by rw [star05]; kernel_rfl) (by kernel_rfl) (by decide) u (by rw [star05]; exact h)
theorem syn_of {w : World} {r : List (String × DataW Unit)} (h : laidMetH Tryd.prog (listed r) w) (hp : ((listed r).all fun x => x.2.handleName?.isNone) = true) : KwV w "strconv.ErrSyntax" fun cs => ∃ t p, cs = #[.iface t p] := by
  rw [MakeChecks.laidMetH_plain _ _ _ hp] at h
  obtain ⟨a0, s0, hv, _⟩ := laid_sentinel (n := "strconv.ErrSyntax") (nm := "*errors.errorString") (g := 3) (ti := 96) (tp := 185) (te := 187) (ts := 9) h.tail.tail.tail.tail.tail (by kernel_rfl) (by kernel_rfl) Tryd.underlying96 row_es Tryd.underlying185 Tryd.underlying187 rfl rfl Tryd.underlying9 (by kernel_rfl) (by kernel_rfl)
  exact .inr ⟨_, hv, _, _, rfl⟩
theorem kw_of {w : World} {r : List (String × DataW Unit)} (hs : w.ShapedOpen Tryd.prog) (h : laidMetH Tryd.prog (listed r) w) (hp : ((listed r).all fun x => x.2.handleName?.isNone) = true) : Kw w := ⟨tab_of h hp, mx_of hs, syn_of h hp⟩
end Go.Proofs.YtjpaedjhihiakaaDoor
