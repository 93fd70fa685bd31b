/-
  Arguments that are numbers with a sign and an exponent, opened; small ints.
-/
import Derived.Test.YtmldjlgeeljfdaaGreatOpen
import Derived.Deep.Strs
namespace Go.Proofs.YtmldjlgeeljfdaaGreat
open Go.ChangeShapes Go.WideShapes Go.ChangeAt Go.RowKit Go.Joins
set_option linter.unusedVariables false
set_option maxRecDepth 100000

theorem cells_bool : Tryz.prog.cellsOf 4 = 1 := by kernel_rfl
theorem cells_int : Tryz.prog.cellsOf 3 = 1 := by kernel_rfl
theorem cells_u64 : Tryz.prog.cellsOf 41 = 1 := by kernel_rfl
theorem cellsRaw : Tryz.prog.cellsOf 51 = 4 := by kernel_rfl

theorem open_Raw {H : Type} {enc : TypeId × Value → H} {W : World} {base base' : Nat} {spare : Nat → Bool} {held : Bool} {r : Reach} {v : Value} {d : DataW H} {p : List MemPlace}
    (hv : Value.okWide Tryz.prog W r base' 51 v) (h : DataW.Trod enc Tryz.prog W base spare held 51 v d p) :
    ∃ (g : Bool) (a1 a0 e : Int) (a : Nat), v = .agg #[.bool g, .int .u64 a1, .int .u64 a0, .int .i64 e] ∧ IsU a1 a0 a ∧ -9223372036854775808 ≤ e ∧ e ≤ 9223372036854775807 := by
  obtain ⟨cs, rfl, hsz⟩ := okWide_struct Tryz.underlying51 hv
  obtain ⟨c0, c1, c2, c3, rfl⟩ := array4 (hsz.trans cellsRaw)
  obtain ⟨fuel, hf⟩ := h
  obtain ⟨y0, y1, y2, n, hx, _, h0, h1, h2⟩ := Go.Deep.trod_struct3 Tryz.underlying51 hf
  have k0 : DataW.trod enc Tryz.prog W base spare held n 4 [c0] = some y0 := by simpa [Value.cells, cells_bool] using h0
  have k1 : DataW.trod enc Tryz.prog W base spare held n 43 [c1, c2] = some y1 := by simpa [Value.cells, cellsU] using h1
  have k2 : DataW.trod enc Tryz.prog W base spare held n 3 [c3] = some y2 := by simpa [Value.cells, cells_int] using h2
  obtain ⟨g, e0, _⟩ := DataW.trod_bool Tryz.underlying4 k0
  obtain ⟨z0, z1, m, _, _, i0, i1⟩ := trod_struct2 Tryz.underlying43 k1
  have j0 : DataW.trod enc Tryz.prog W base spare held m 41 [c1] = some z0 := by simpa [cells_u64] using i0
  have j1 : DataW.trod enc Tryz.prog W base spare held m 41 [c2] = some z1 := by simpa [cells_u64] using i1
  obtain ⟨a, ea, _, wa⟩ := DataW.trod_int Tryz.underlying41 j0
  obtain ⟨b, eb, _, wb⟩ := DataW.trod_int Tryz.underlying41 j1
  obtain ⟨c, ec, _, wc⟩ := DataW.trod_int Tryz.underlying3 k2
  simp at e0 ea eb ec
  subst e0 ea eb ec
  have b0 := bounds_u64 wa
  have b1 := bounds_u64 wb
  have b2 := bounds_i64 wc
  exact ⟨g, a, b, c, (a * 18446744073709551616 + b).toNat, rfl, ⟨by omega, by omega, by omega, by omega, by omega⟩, b2.1, b2.2⟩

end Go.Proofs.YtmldjlgeeljfdaaGreat
