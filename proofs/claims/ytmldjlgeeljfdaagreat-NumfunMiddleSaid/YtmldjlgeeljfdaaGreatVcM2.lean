/-
  The reference's quotients and roots.
-/
import Derived.Test.YtmldjlgeeljfdaaGreatVcM
namespace Go.Proofs.YtmldjlgeeljfdaaGreat
open Go.RowKit
set_option linter.unusedVariables false
set_option linter.unusedSimpArgs false
set_option maxRecDepth 100000

theorem nd_small {d : Nat} (h : d < 10) : nd d ≤ 1 := nd_le _ _ (by simpa using h)
theorem nd_up {m n : Nat} {k : Nat} (h : m ≤ n * 10 ^ k) : nd m ≤ nd n + k + 1 :=
  Nat.le_trans (nd_mono h) (Nat.le_trans (nd_mul _ _) (by
    have : nd (10 ^ k) ≤ k + 1 := nd_le _ _ (Nat.pow_lt_pow_right (by decide) (by omega))
    omega))
theorem div_keep {a b q r d k : Nat} (h : q * b + r = a / 10 ^ k) (hr : r < b) (hd : d = dig a (k - 1)) (hk : 1 ≤ k) {n s : Nat} (h2 : n * b + s = r * 10 + d) (hs : s < b) : (q * 10 + n) * b + s = a / 10 ^ (k - 1) ∧ n < 10 := by
  have hd10 := dig_lt a (k - 1)
  have e := mul_digit a hk
  refine ⟨by rw [e, ← h, ← hd, Nat.add_mul, Nat.add_mul, Nat.mul_right_comm]; omega, ?_⟩
  rcases Nat.lt_or_ge n 10 with h3 | h3
  · exact h3
  · have := Nat.mul_le_mul_right b h3
    omega

/-- What Root's rounds keep: 10 ^ k is the next digit's worth. -/
structure RootInv (a k q : Nat) : Prop where
  lo : q * q ≤ a
  hi : a < (q + 10 ^ k) * (q + 10 ^ k)
theorem pow_ten {k : Nat} (hk : 1 ≤ k) : 10 ^ k = 10 * 10 ^ (k - 1) := by
  obtain ⟨j, rfl⟩ : ∃ j, k = j + 1 := ⟨k - 1, by omega⟩
  rw [Nat.pow_succ, Nat.add_sub_cancel, Nat.mul_comm]
theorem nd_add {x y m : Nat} (hx : nd x ≤ m) (hy : nd y ≤ m) : nd (x + y) ≤ m + 1 := by
  have h1 := Nat.lt_of_lt_of_le (lt_nd x) (Nat.pow_le_pow_right (by decide) hx)
  have h2 := Nat.lt_of_lt_of_le (lt_nd y) (Nat.pow_le_pow_right (by decide) hy)
  refine nd_le _ _ ?_
  rw [Nat.pow_succ]
  omega
theorem root_ex : ∀ a : Nat, ∃ s, s * s ≤ a ∧ a < (s + 1) * (s + 1)
  | 0 => ⟨0, by omega, by omega⟩
  | a + 1 => by
    obtain ⟨s, h1, h2⟩ := root_ex a
    by_cases h : a + 1 < (s + 1) * (s + 1)
    · exact ⟨s, by omega, h⟩
    · refine ⟨s + 1, by omega, ?_⟩
      have : (s + 1 + 1) * (s + 1 + 1) = (s + 1) * (s + 1) + 2 * (s + 1) + 1 := by rw [Nat.add_mul, Nat.mul_add]; omega
      omega
theorem root_start (a : Nat) : RootInv a ((nd a + 1) / 2 + 1) 0 := by
  refine ⟨by simp, ?_⟩
  rw [Nat.zero_add, ← Nat.pow_add]
  exact Nat.lt_of_lt_of_le (lt_nd a) (Nat.pow_le_pow_right (by decide) (by omega))

end Go.Proofs.YtmldjlgeeljfdaaGreat
