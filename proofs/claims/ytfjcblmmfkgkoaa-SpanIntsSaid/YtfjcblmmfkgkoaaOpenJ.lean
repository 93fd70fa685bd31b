/-
  Arguments that are ints of 16 bits, opened.
-/
import Derived.Test.YtfjcblmmfkgkoaaOpen
namespace Go.Proofs.Ytfjcblmmfkgkoaa
open Go.ChangeShapes Go.WideShapes Go.ChangeAt Go.RowKit Go.Joins
set_option linter.unusedVariables false
set_option maxRecDepth 100000

theorem open_i16 {H : Type} {enc : TypeId × Value → H} {W : World} {base base' : Nat} {spare : Nat → Bool} {held : Bool} {r : Reach} {v : Value} {d : DataW H} {p : List MemPlace}
    (hv : Value.okWide Try.prog W r base' 59 v) (h : DataW.Trod enc Try.prog W base spare held 59 v d p) :
    ∃ a : Int, v = .int .i16 a ∧ -32768 ≤ a ∧ a ≤ 32767 := by
  obtain ⟨x, rfl, rfl, rfl, wx⟩ := open_int Try.underlying59 hv h
  have b := bounds_i16 wx
  exact ⟨x, rfl, by omega, by omega⟩
end Go.Proofs.Ytfjcblmmfkgkoaa
