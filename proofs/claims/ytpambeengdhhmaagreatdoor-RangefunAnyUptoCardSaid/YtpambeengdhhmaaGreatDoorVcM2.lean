/-
  The reference's quotients and roots.
-/
import Derived.Test.YtpambeengdhhmaaGreatDoorVcM
namespace Go.Proofs.YtpambeengdhhmaaGreatDoor
open Go.RowKit
set_option linter.unusedVariables false
set_option linter.unusedSimpArgs false
set_option maxRecDepth 100000

/-- What Root's rounds keep: 10 ^ k is the next digit's worth. -/
structure RootInv (a k q : Nat) : Prop where
  lo : q * q ≤ a
  hi : a < (q + 10 ^ k) * (q + 10 ^ k)
theorem root_ex : ∀ a : Nat, ∃ s, s * s ≤ a ∧ a < (s + 1) * (s + 1)
  | 0 => ⟨0, by omega, by omega⟩
  | a + 1 => by
    obtain ⟨s, h1, h2⟩ := root_ex a
    by_cases h : a + 1 < (s + 1) * (s + 1)
    · exact ⟨s, by omega, h⟩
    · refine ⟨s + 1, by omega, ?_⟩
      have : (s + 1 + 1) * (s + 1 + 1) = (s + 1) * (s + 1) + 2 * (s + 1) + 1 := by rw [Nat.add_mul, Nat.mul_add]; omega
      omega
end Go.Proofs.YtpambeengdhhmaaGreatDoor
