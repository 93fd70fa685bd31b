/-
  An argument that is a number not rounded yet, opened.
-/
import Derived.Test.YtgphodlkaknkcaaOpen2
namespace Go.Proofs.Ytgphodlkaknkcaa
open Go.ChangeShapes Go.WideShapes Go.ChangeAt Go.RowKit Go.Joins
set_option linter.unusedVariables false
set_option maxRecDepth 100000

theorem array7 {α : Type} {cs : Array α} (h : cs.size = 7) : ∃ c0 c1 c2 c3 c4 c5 c6, cs = #[c0, c1, c2, c3, c4, c5, c6] := by
  obtain ⟨l⟩ := cs
  match l, h with
  | [c0, c1, c2, c3, c4, c5, c6], _ => exact ⟨c0, c1, c2, c3, c4, c5, c6, rfl⟩
theorem trod_struct5 {H : Type} {enc : TypeId × Value → H} {P : Program} {w : World} {base : Nat} {spare : Nat → Bool} {held : Bool} {t : TypeId} {f0 f1 f2 f3 f4 : Field} {fuel : Nat} {cs : List Value} {x : DataW H × List MemPlace} (ht : P.underlying t = some (.struct #[f0, f1, f2, f3, f4])) (h : DataW.trod enc P w base spare held fuel t cs = some x) :
    ∃ y0 y1 y2 y3 y4 n, DataW.trod enc P w base spare held n f0.type ((cs.drop f0.offset).take (P.cellsOf f0.type)) = some y0 ∧
      DataW.trod enc P w base spare held n f1.type ((cs.drop f1.offset).take (P.cellsOf f1.type)) = some y1 ∧ DataW.trod enc P w base spare held n f2.type ((cs.drop f2.offset).take (P.cellsOf f2.type)) = some y2 ∧
      DataW.trod enc P w base spare held n f3.type ((cs.drop f3.offset).take (P.cellsOf f3.type)) = some y3 ∧ DataW.trod enc P w base spare held n f4.type ((cs.drop f4.offset).take (P.cellsOf f4.type)) = some y4 := by
  obtain ⟨xs, n, _, rfl, hl, hlen, hf⟩ := DataW.trod_struct ht h
  match xs, hlen with
  | [y0, y1, y2, y3, y4], _ => exact ⟨y0, y1, y2, y3, y4, n, by simpa using hf 0 f0 rfl, by simpa using hf 1 f1 rfl, by simpa using hf 2 f2 rfl, by simpa using hf 3 f3 rfl, by simpa using hf 4 f4 rfl⟩
theorem cellsWide : Try.prog.cellsOf 45 = 7 := by kernel_rfl
theorem trod_U {H : Type} {enc : TypeId × Value → H} {W : World} {base : Nat} {spare : Nat → Bool} {held : Bool} {n : Nat} {c1 c2 : Value} {y : DataW H × List MemPlace} (k1 : DataW.trod enc Try.prog W base spare held n 24 [c1, c2] = some y) :
    ∃ (a1 a0 : Int) (a : Nat), c1 = .int .u64 a1 ∧ c2 = .int .u64 a0 ∧ IsU a1 a0 a := by
  obtain ⟨z0, z1, m, _, _, i0, i1⟩ := trod_struct2 Try.underlying24 k1
  have j0 : DataW.trod enc Try.prog W base spare held m 22 [c1] = some z0 := by simpa [cells_u64] using i0
  have j1 : DataW.trod enc Try.prog W base spare held m 22 [c2] = some z1 := by simpa [cells_u64] using i1
  obtain ⟨a, ea, _, wa⟩ := DataW.trod_int Try.underlying22 j0
  obtain ⟨b, eb, _, wb⟩ := DataW.trod_int Try.underlying22 j1
  simp at ea eb
  have b0 := bounds_u64 wa
  have b1 := bounds_u64 wb
  exact ⟨a, b, (a * 18446744073709551616 + b).toNat, ea, eb, ⟨by omega, by omega, by omega, by omega, by omega⟩⟩

theorem open_Wide {H : Type} {enc : TypeId × Value → H} {W : World} {base base' : Nat} {spare : Nat → Bool} {held : Bool} {r : Reach} {v : Value} {d : DataW H} {p : List MemPlace}
    (hv : Value.okWide Try.prog W r base' 45 v) (h : DataW.Trod enc Try.prog W base spare held 45 v d p) :
    ∃ (g : Bool) (a1 a0 b1 b0 e : Int) (a b : Nat) (m : Bool), v = .agg #[.bool g, .int .u64 a1, .int .u64 a0, .int .u64 b1, .int .u64 b0, .int .i64 e, .bool m] ∧ IsU a1 a0 a ∧ IsU b1 b0 b ∧ -9223372036854775808 ≤ e ∧ e ≤ 9223372036854775807 := by
  obtain ⟨cs, rfl, hsz⟩ := okWide_struct Try.underlying45 hv
  obtain ⟨c0, c1, c2, c3, c4, c5, c6, rfl⟩ := array7 (hsz.trans cellsWide)
  obtain ⟨fuel, hf⟩ := h
  obtain ⟨y0, y1, y2, y3, y4, n, h0, h1, h2, h3, h4⟩ := trod_struct5 Try.underlying45 hf
  have k0 : DataW.trod enc Try.prog W base spare held n 4 [c0] = some y0 := by simpa [Value.cells, cells_bool] using h0
  have k1 : DataW.trod enc Try.prog W base spare held n 24 [c1, c2] = some y1 := by simpa [Value.cells, cellsU] using h1
  have k2 : DataW.trod enc Try.prog W base spare held n 24 [c3, c4] = some y2 := by simpa [Value.cells, cellsU] using h2
  have k3 : DataW.trod enc Try.prog W base spare held n 3 [c5] = some y3 := by simpa [Value.cells, cells_int] using h3
  have k4 : DataW.trod enc Try.prog W base spare held n 4 [c6] = some y4 := by simpa [Value.cells, cells_bool] using h4
  obtain ⟨g, e0, _⟩ := DataW.trod_bool Try.underlying4 k0
  obtain ⟨a1, a0, a, ea1, ea0, ua⟩ := trod_U k1
  obtain ⟨b1, b0, b, eb1, eb0, ub⟩ := trod_U k2
  obtain ⟨c, ec, _, wc⟩ := DataW.trod_int Try.underlying3 k3
  obtain ⟨m, e6, _⟩ := DataW.trod_bool Try.underlying4 k4
  simp at e0 ec e6
  subst e0 ea1 ea0 eb1 eb0 ec e6
  have b2 := bounds_i64 wc
  exact ⟨g, a1, a0, b1, b0, c, a, b, m, rfl, ua, ub, b2.1, b2.2⟩

end Go.Proofs.Ytgphodlkaknkcaa
