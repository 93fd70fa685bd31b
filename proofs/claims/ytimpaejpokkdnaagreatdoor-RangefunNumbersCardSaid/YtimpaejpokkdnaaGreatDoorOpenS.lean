/-
  Arguments that are ranges of small ints, opened; a world in which Go's listed tables lie.
-/
import Derived.Test.YtimpaejpokkdnaaGreatDoorOpen
import Derived.Deep.Strs
import Derived.Lay
import Derived.LaidMore
import Derived.MakeChecks
namespace Go.Proofs.YtimpaejpokkdnaaGreatDoor
open Go.ChangeShapes Go.WideShapes Go.ChangeAt Go.RowKit Go.Joins
set_option linter.unusedVariables false
set_option maxRecDepth 100000

theorem cells_i16 : Tryz.prog.cellsOf 22 = 1 := by kernel_rfl
theorem cells_boolS : Tryz.prog.cellsOf 4 = 1 := by kernel_rfl
theorem cells_b2 : Tryz.prog.cellsOf 23 = 2 := by kernel_rfl
theorem cellsSpan : Tryz.prog.cellsOf 25 = 5 := by kernel_rfl
theorem array5 {α : Type} {cs : Array α} (h : cs.size = 5) : ∃ c0 c1 c2 c3 c4, cs = #[c0, c1, c2, c3, c4] := by
  obtain ⟨l⟩ := cs
  match l, h with
  | [c0, c1, c2, c3, c4], _ => exact ⟨c0, c1, c2, c3, c4, rfl⟩
theorem trod_b2 {H : Type} {enc : TypeId × Value → H} {W : World} {base : Nat} {spare : Nat → Bool} {held : Bool} {n : Nat} {c1 c2 : Value} {y : DataW H × List MemPlace} (k1 : DataW.trod enc Tryz.prog W base spare held n 23 [c1, c2] = some y) :
    ∃ p q : Bool, c1 = .bool p ∧ c2 = .bool q := by
  obtain ⟨xs, m, _, ex, _, hl, hel⟩ := DataW.trod_array Tryz.underlying23 k1
  have h0 := hel 0 (by omega)
  have h1 := hel 1 (by omega)
  rw [cells_boolS] at h0 h1
  rw [List.getElem?_eq_getElem (by omega)] at h0 h1
  obtain ⟨p, e0, _⟩ := DataW.trod_bool Tryz.underlying4 h0
  obtain ⟨q, e1, _⟩ := DataW.trod_bool Tryz.underlying4 h1
  simp at e0 e1
  exact ⟨p, q, e0, e1⟩
theorem open_Span {H : Type} {enc : TypeId × Value → H} {W : World} {base base' : Nat} {spare : Nat → Bool} {held : Bool} {r : Reach} {v : Value} {d : DataW H} {p : List MemPlace}
    (hv : Value.okWide Tryz.prog W r base' 25 v) (h : DataW.Trod enc Tryz.prog W base spare held 25 v d p) :
    ∃ (a0 a1 : Int) (p q t : Bool), v = .agg #[.int .i16 a0, .int .i16 a1, .bool p, .bool q, .bool t] ∧ (-32768 ≤ a0 ∧ a0 ≤ 32767) ∧ (-32768 ≤ a1 ∧ a1 ≤ 32767) := by
  obtain ⟨cs, rfl, hsz⟩ := okWide_struct Tryz.underlying25 hv
  obtain ⟨c0, c1, c2, c3, c4, rfl⟩ := array5 (hsz.trans cellsSpan)
  obtain ⟨fuel, hf⟩ := h
  obtain ⟨y0, y1, y2, y3, n, _, _, h0, h1, h2, h3⟩ := trod_struct4 Tryz.underlying25 hf
  have k0 : DataW.trod enc Tryz.prog W base spare held n 22 [c0] = some y0 := by simpa [Value.cells, cells_i16] using h0
  have k1 : DataW.trod enc Tryz.prog W base spare held n 22 [c1] = some y1 := by simpa [Value.cells, cells_i16] using h1
  have k2 : DataW.trod enc Tryz.prog W base spare held n 23 [c2, c3] = some y2 := by simpa [Value.cells, cells_b2] using h2
  have k3 : DataW.trod enc Tryz.prog W base spare held n 4 [c4] = some y3 := by simpa [Value.cells, cells_boolS] using h3
  obtain ⟨a, ea, _, wa⟩ := DataW.trod_int Tryz.underlying22 k0
  obtain ⟨b, eb, _, wb⟩ := DataW.trod_int Tryz.underlying22 k1
  obtain ⟨p, q, ep, eq⟩ := trod_b2 k2
  obtain ⟨t, et, _⟩ := DataW.trod_bool Tryz.underlying4 k3
  simp at ea eb et
  subst ea eb ep eq et
  have b0 := bounds_i16 wa
  have b1 := bounds_i16 wb
  exact ⟨a, b, p, q, t, rfl, ⟨by omega, by omega⟩, by omega, by omega⟩

end Go.Proofs.YtimpaejpokkdnaaGreatDoor
