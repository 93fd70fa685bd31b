/-
  The contract of package wide's long division of four words by two, for all arguments.
-/
import Derived.Test.YtpambeengdhhmaaGreatDoorWide3
import Derived.Deep.LoopGhost
namespace Go.Proofs.YtpambeengdhhmaaGreatDoor
open Go.RowKit

theorem IsU.or1 {h l : Int} {n : Nat} (u : IsU h l n) (he : n % 2 = 0) : IsU h (bits .or .u64 l 1) (n + 1) := by
  obtain ⟨a, b, c, d, e⟩ := u
  rw [or_join 1 c d (by simp only [Nat.pow_one]; omega) (by omega) (by decide) (by omega)]
  exact ⟨a, b, by omega, by omega, by omega⟩

/-- One step of the long division, with the double of what is left under a name. -/
theorem DivInv.next {N d k r q r2 q2 : Nat} (h : DivInv N d k r q) (hk : k < 128) (e2 : r2 = 2 * r + q / 170141183460469231731687303715884105728) (e3 : q2 = 2 * q % 340282366920938463463374607431768211456) :
    (d ≤ r2 → DivInv N d (k + 1) (r2 - d) (q2 + 1)) ∧ (r2 < d → DivInv N d (k + 1) r2 q2) ∧ r2 ≤ 2 * r + 1 ∧ 2 * r ≤ r2 ∧ q2 % 2 = 0 := by
  subst e2 e3
  obtain ⟨a, b, c, e⟩ := h.step hk
  exact ⟨a, b, by omega, by omega, e⟩

end Go.Proofs.YtpambeengdhhmaaGreatDoor
