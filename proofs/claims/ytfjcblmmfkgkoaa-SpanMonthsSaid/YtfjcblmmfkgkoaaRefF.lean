/-
  casuistref03: exact, Div, Power, Root.
-/
import Derived.Test.YtfjcblmmfkgkoaaFitB
namespace Go.Proofs.Ytfjcblmmfkgkoaa
open Go.RowKit
set_option linter.unusedVariables false
set_option linter.unusedSimpArgs false
set_option maxRecDepth 100000

theorem dig0 (n : Nat) : dig n 0 = n % 10 := by simp [dig]

theorem c_ShiftA {a n A : Nat} {X : Int} (hA : A = a * 10 ^ n) (hX : X = (n : Int)) (ha : nd a ≤ 900000) (hn : n ≤ 90000) : HasC Try.prog 19 [.sl (nd a) (dg (digs a)), .v (.int .i64 X)] (fun y => y = .sl (nd A) (dg (digs A))) := by
  subst hA hX
  exact c_Shift ha hn

theorem one_RD : ([.v (.bool false), .sl (nd 1) (dg (digs 1)), .v (.int .i64 0)] : List DV) = [.v (.bool false), .sl 1 [.v (.int .i64 1)], .v (.int .i64 0)] := by rw [dn_one]
theorem quo_bit {m B i : Nat} {X Y z w : Int} (hX : X = (m : Int)) (hY : Y = (B : Int)) (hB : B = 2 ^ i) (hm : m ≤ 1000000000) (h : IntIs .i64 (X.tdiv Y) z) (hw : w = z.tmod 2) : w = 1 ↔ m / 2 ^ i % 2 = 1 := by
  subst hY
  have h1 := quoI hX h (by omega)
  subst hB
  have h2 := remI (b := 2) h1 hw
  generalize m / 2 ^ i = q at *
  omega

theorem bit_end {j B : Nat} (hB : B = 2 ^ j / 2) (h : B = 0) : j = 0 := by
  cases j with
  | zero => rfl
  | succ i =>
    rw [Nat.pow_succ, Nat.mul_div_cancel _ (by decide)] at hB
    have : 0 < 2 ^ i := Nat.pow_pos (by decide)
    omega
theorem tmod2 {x z : Int} (h : z = x.tmod 2) : (0 ≤ z ∧ z = x % 2) ∨ (z < 0 ∧ x % 2 = 1) := by
  rcases Int.le_total 0 x with h0 | h0
  · rw [Int.tmod_eq_emod_of_nonneg h0] at h
    omega
  · obtain ⟨y, rfl⟩ : ∃ y, x = -y := ⟨-x, by omega⟩
    rw [Int.neg_tmod, Int.tmod_eq_emod_of_nonneg (by omega)] at h
    omega
end Go.Proofs.Ytfjcblmmfkgkoaa
