/-
  The contracts of package wide's shift by one and long division, for all arguments. The contract of package wide's long division of four words by two, for all arguments.
-/
import Derived.Test.YtpambeengdhhmaaGreatDoorWide2
import Derived.BigRegion
import Derived.Deep.RegionHeld3
import Derived.Deep.LoopGhost
namespace Go.Proofs.YtpambeengdhhmaaGreatDoor

open Go.RowKit

/-- The state of the long division behind k rounds: r is what is left, q holds the quotient's digits so far below what is still to come. -/
def DivInv (N d k r q : Nat) : Prop := r < d ∧ ∃ Q rest : Nat, q = rest * 2 ^ k + Q ∧ Q < 2 ^ k ∧ rest < 2 ^ (128 - k) ∧ N = (Q * d + r) * 2 ^ (128 - k) + rest

theorem DivInv.start {hi lo d : Nat} (h : hi < d) (hl : lo < 340282366920938463463374607431768211456) : DivInv (hi * 340282366920938463463374607431768211456 + lo) d 0 hi lo :=
  ⟨h, 0, lo, by simp, by simp, by simpa using hl, by simp⟩

theorem DivInv.qlt {N d k r q : Nat} (h : DivInv N d k r q) (hk : k ≤ 128) : q < 340282366920938463463374607431768211456 := by
  obtain ⟨h1, Q, rest, h2, h3, h4, h5⟩ := h
  have e : 2 ^ (128 - k) * 2 ^ k = 340282366920938463463374607431768211456 := by rw [← Nat.pow_add, Nat.sub_add_cancel hk]
  have : (rest + 1) * 2 ^ k ≤ 2 ^ (128 - k) * 2 ^ k := Nat.mul_le_mul_right _ h4
  rw [e, Nat.add_mul] at this
  omega

theorem DivInv.step {N d k r q : Nat} (h : DivInv N d k r q) (hk : k < 128) :
    (d ≤ 2 * r + q / 170141183460469231731687303715884105728 → DivInv N d (k + 1) (2 * r + q / 170141183460469231731687303715884105728 - d) (2 * q % 340282366920938463463374607431768211456 + 1)) ∧ (2 * r + q / 170141183460469231731687303715884105728 < d → DivInv N d (k + 1) (2 * r + q / 170141183460469231731687303715884105728) (2 * q % 340282366920938463463374607431768211456)) ∧ q / 170141183460469231731687303715884105728 ≤ 1 ∧ 2 * q % 340282366920938463463374607431768211456 % 2 = 0 := by
  have hq := h.qlt (by omega)
  obtain ⟨h1, Q, rest, h2, h3, h4, h5⟩ := h
  obtain ⟨j, hj⟩ : ∃ j, 128 = k + 1 + j := ⟨127 - k, by omega⟩
  have e1 : 128 - k = j + 1 := by omega
  have e2 : 128 - (k + 1) = j := by omega
  rw [e1] at h4 h5
  have ps : 2 ^ j * 2 ^ k = 170141183460469231731687303715884105728 := by rw [← Nat.pow_add, show j + k = 127 by omega]
  have pj : 0 < 2 ^ j := Nat.two_pow_pos j
  have pk : 0 < 2 ^ k := Nat.two_pow_pos k
  have ek : 2 ^ (k + 1) = 2 * 2 ^ k := by rw [Nat.pow_succ, Nat.mul_comm]
  have ej : 2 ^ (j + 1) = 2 * 2 ^ j := by rw [Nat.pow_succ, Nat.mul_comm]
  rw [ej] at h4 h5
  unfold DivInv
  rw [e2, ek]
  generalize 2 ^ j = s at *
  generalize 2 ^ k = p at *
  clear e1 e2 ek ej hj hk
  -- the highest digit that is still to come
  obtain ⟨t, rest', hr, ht, hr'⟩ : ∃ t rest', rest = t * s + rest' ∧ t ≤ 1 ∧ rest' < s := by
    refine ⟨rest / s, rest % s, by rw [Nat.mul_comm]; exact (Nat.div_add_mod rest s).symm, ?_, Nat.mod_lt _ pj⟩
    have : rest / s < 2 := by rw [Nat.div_lt_iff_lt_mul pj]; omega
    omega
  have hlow : rest' * p + Q < 170141183460469231731687303715884105728 := by
    have : (rest' + 1) * p ≤ s * p := Nat.mul_le_mul_right _ hr'
    rw [ps, Nat.add_mul] at this
    omega
  have hqv : q = t * 170141183460469231731687303715884105728 + (rest' * p + Q) := by
    rw [h2, hr, Nat.add_mul, Nat.mul_assoc, ps, Nat.add_assoc]
  have hqt : q / 170141183460469231731687303715884105728 = t := by omega
  have hq2 : 2 * q % 340282366920938463463374607431768211456 = rest' * (2 * p) + 2 * Q := by
    have : rest' * (2 * p) = 2 * (rest' * p) := by rw [Nat.mul_left_comm]
    omega
  have hN : N = (2 * Q * d + (2 * r + t)) * s + rest' := by
    rw [h5, hr]
    have a1 : (Q * d + r) * (2 * s) = (2 * Q * d + 2 * r) * s := by
      rw [Nat.mul_left_comm, ← Nat.mul_assoc, Nat.mul_add, ← Nat.mul_assoc]
    have a2 : (2 * Q * d + (2 * r + t)) * s = (2 * Q * d + 2 * r) * s + t * s := by rw [← Nat.add_assoc, Nat.add_mul]
    rw [a1, a2]; omega
  rw [hqt, hq2]
  refine ⟨fun hge => ⟨by omega, 2 * Q + 1, rest', by omega, by omega, hr', ?_⟩, fun hlt => ⟨hlt, 2 * Q, rest', rfl, by omega, hr', hN⟩, ht, ?_⟩
  · rw [hN]
    congr 2
    rw [Nat.add_mul]
    omega
  · have : rest' * (2 * p) = 2 * (rest' * p) := by rw [Nat.mul_left_comm]
    omega



open Go.RowKit

/-- One step of the long division, with the double of what is left under a name. -/
theorem DivInv.next {N d k r q r2 q2 : Nat} (h : DivInv N d k r q) (hk : k < 128) (e2 : r2 = 2 * r + q / 170141183460469231731687303715884105728) (e3 : q2 = 2 * q % 340282366920938463463374607431768211456) :
    (d ≤ r2 → DivInv N d (k + 1) (r2 - d) (q2 + 1)) ∧ (r2 < d → DivInv N d (k + 1) r2 q2) ∧ r2 ≤ 2 * r + 1 ∧ 2 * r ≤ r2 ∧ q2 % 2 = 0 := by
  subst e2 e3
  obtain ⟨a, b, c, e⟩ := h.step hk
  exact ⟨a, b, by omega, by omega, e⟩

end Go.Proofs.YtpambeengdhhmaaGreatDoor
