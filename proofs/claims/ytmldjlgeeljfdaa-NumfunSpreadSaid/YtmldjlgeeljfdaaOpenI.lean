/-
  Arguments that are ints of 32 bits, opened.
-/
import Derived.Test.YtmldjlgeeljfdaaOpen
namespace Go.Proofs.Ytmldjlgeeljfdaa
open Go.ChangeShapes Go.WideShapes Go.ChangeAt Go.RowKit Go.Joins
set_option linter.unusedVariables false
set_option maxRecDepth 100000

theorem open_i32 {H : Type} {enc : TypeId × Value → H} {W : World} {base base' : Nat} {spare : Nat → Bool} {held : Bool} {r : Reach} {v : Value} {d : DataW H} {p : List MemPlace}
    (hv : Value.okWide Try.prog W r base' 21 v) (h : DataW.Trod enc Try.prog W base spare held 21 v d p) :
    ∃ a : Int, v = .int .i32 a ∧ -2147483648 ≤ a ∧ a ≤ 2147483647 := by
  obtain ⟨x, rfl, rfl, rfl, wx⟩ := open_int Try.underlying21 hv h
  have b := bounds_i32 wx
  exact ⟨x, rfl, by omega, by omega⟩
end Go.Proofs.Ytmldjlgeeljfdaa
