/-
  An argument that is a number of two words, opened.
-/
import Derived.Test.YtmldjlgeeljfdaaGreatNum
import Derived.ProofKit
import Derived.OpenShut
import Derived.ShutString
import Derived.ChangeOld
import Derived.Below
import Derived.Lib.SmallJoins
namespace Go.Proofs.YtmldjlgeeljfdaaGreat
open Go.ChangeShapes Go.WideShapes Go.ChangeAt Go.RowKit Go.Joins
set_option linter.unusedVariables false
set_option maxRecDepth 100000

theorem row_own : ownKnob Tryz.prog.godebug = none := by kernel_rfl
theorem row_laid : laidOutB Tryz.prog = true := by kernel_rfl
theorem cellsU : Tryz.prog.cellsOf 43 = 2 := by kernel_rfl

theorem open_U {H : Type} {enc : TypeId × Value → H} {W : World} {base base' : Nat} {spare : Nat → Bool} {held : Bool} {r : Reach} {v : Value} {d : DataW H} {p : List MemPlace}
    (hv : Value.okWide Tryz.prog W r base' 43 v) (h : DataW.Trod enc Tryz.prog W base spare held 43 v d p) :
    ∃ (a1 a0 : Int) (a : Nat), v = .agg #[.int .u64 a1, .int .u64 a0] ∧ IsU a1 a0 a := by
  obtain ⟨c0, c1, y0, y1, m, rfl, rfl, rfl, hy0, hy1⟩ := open_agg2 Tryz.underlying43 (by kernel_rfl) cellsU hv h
  obtain ⟨a, e0, rfl, wa⟩ := DataW.trod_int Tryz.underlying41 hy0
  obtain ⟨b, e1, rfl, wb⟩ := DataW.trod_int Tryz.underlying41 hy1
  simp at e0 e1
  subst e0 e1
  have h0 := bounds_u64 wa
  have h1 := bounds_u64 wb
  exact ⟨a, b, (a * 18446744073709551616 + b).toNat, rfl, ⟨by omega, by omega, by omega, by omega, by omega⟩⟩

theorem open_W {H : Type} {enc : TypeId × Value → H} {W : World} {base base' : Nat} {spare : Nat → Bool} {held : Bool} {r : Reach} {v : Value} {d : DataW H} {p : List MemPlace}
    (hv : Value.okWide Tryz.prog W r base' 41 v) (h : DataW.Trod enc Tryz.prog W base spare held 41 v d p) :
    ∃ (a : Int) (n : Nat), v = .int .u64 a ∧ IsW a n := by
  obtain ⟨x, rfl, rfl, rfl, wx⟩ := open_int Tryz.underlying41 hv h
  have h0 := bounds_u64 wx
  exact ⟨x, x.toNat, rfl, ⟨by omega, by omega, by omega⟩⟩

theorem open_I {H : Type} {enc : TypeId × Value → H} {W : World} {base base' : Nat} {spare : Nat → Bool} {held : Bool} {r : Reach} {v : Value} {d : DataW H} {p : List MemPlace}
    (hv : Value.okWide Tryz.prog W r base' 3 v) (h : DataW.Trod enc Tryz.prog W base spare held 3 v d p) :
    ∃ a : Int, v = .int .i64 a ∧ -9223372036854775808 ≤ a ∧ a ≤ 9223372036854775807 := by
  obtain ⟨x, rfl, rfl, rfl, wx⟩ := open_int Tryz.underlying3 hv h
  have h0 := bounds_i64 wx
  exact ⟨x, rfl, h0.1, h0.2⟩

end Go.Proofs.YtmldjlgeeljfdaaGreat
