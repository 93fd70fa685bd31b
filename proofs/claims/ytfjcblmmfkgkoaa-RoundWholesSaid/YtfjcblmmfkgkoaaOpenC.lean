/-
  Arguments that are bytes, opened.
-/
import Derived.Test.YtfjcblmmfkgkoaaOpen
namespace Go.Proofs.Ytfjcblmmfkgkoaa
open Go.ChangeShapes Go.WideShapes Go.ChangeAt Go.RowKit Go.Joins
set_option linter.unusedVariables false
set_option maxRecDepth 100000

theorem open_u8 {H : Type} {enc : TypeId × Value → H} {W : World} {base base' : Nat} {spare : Nat → Bool} {held : Bool} {r : Reach} {v : Value} {d : DataW H} {p : List MemPlace}
    (hv : Value.okWide Try.prog W r base' 5 v) (h : DataW.Trod enc Try.prog W base spare held 5 v d p) :
    ∃ n : Nat, v = .int .u8 (n : Int) ∧ n < 256 := by
  obtain ⟨x, rfl, rfl, rfl, wx⟩ := open_int Try.underlying5 hv h
  have b := bounds_u8 wx
  obtain ⟨n, rfl⟩ : ∃ n : Nat, x = (n : Int) := ⟨x.toNat, by omega⟩
  exact ⟨n, rfl, by omega⟩
end Go.Proofs.Ytfjcblmmfkgkoaa
