/-
  The contract of package wide's square root, for all arguments.
-/
import Derived.Test.YtmldjlgeeljfdaaGreatWide5
import Derived.Deep.CutBlock
namespace Go.Proofs.YtmldjlgeeljfdaaGreat
open Go.RowKit
set_option linter.unusedVariables false

theorem pow_split {k : Nat} (h : 64 ≤ k) : 2 ^ k = 2 ^ (k - 64) * 18446744073709551616 := by
  rw [show (18446744073709551616 : Nat) = 2 ^ 64 from rfl, ← Nat.pow_add, Nat.sub_add_cancel h]

/-- A root's next bit, in the higher word. -/
theorem root_hi {r1 r0 : Int} {r k : Nat} (u : IsU r1 r0 r) (hm : r % 2 ^ k = 0) (h65 : 65 ≤ k) (h128 : k ≤ 128) :
    IsU (bits BinOp.or IntKind.u64 r1 (IntKind.u64.wrap (2 ^ (k - 1 - 64)))) r0 (r + 2 ^ (k - 1)) := by
  obtain ⟨R1, R0, rfl, rfl, p1, p0, rfl⟩ := u.nat
  have e1 := pow_split (k := k) (by omega)
  have e2 := pow_split (k := k - 1) (by omega)
  have e3 : k - 64 = (k - 1 - 64) + 1 := by omega
  have e4 : 2 ^ (k - 64) = 2 * 2 ^ (k - 1 - 64) := by rw [e3, Nat.pow_succ, Nat.mul_comm]
  have hp : 2 ^ (k - 1 - 64) ≤ 2 ^ 63 := Nat.pow_le_pow_right (by decide) (by omega)
  have hpos : 0 < 2 ^ (k - 1 - 64) := Nat.two_pow_pos _
  have hR1 : R1 % 2 ^ (k - 64) = 0 := by
    have hd : 2 ^ k ∣ R1 * 18446744073709551616 + R0 := Nat.dvd_of_mod_eq_zero hm
    obtain ⟨c, hc⟩ := hd
    rw [e1, Nat.mul_right_comm] at hc
    have hR : R1 = 2 ^ (k - 64) * c := by
      generalize 2 ^ (k - 64) * c = z at *
      omega
    rw [hR]
    exact Nat.mul_mod_right _ _
  have hlt : R1 + 2 ^ (k - 64) ≤ 2 ^ (128 - k) * 2 ^ (k - 64) := by
    have e5 : 2 ^ (128 - k) * 2 ^ (k - 64) = 18446744073709551616 := by rw [← Nat.pow_add, show 128 - k + (k - 64) = 64 by omega]
    obtain ⟨c, hc⟩ := Nat.dvd_of_mod_eq_zero hR1
    rw [hc, Nat.mul_comm (2 ^ (k - 64)) c, ← Nat.succ_mul]
    apply Nat.mul_le_mul_right
    rw [Nat.succ_le_iff]
    refine Nat.lt_of_mul_lt_mul_right (a := 2 ^ (k - 64)) ?_
    rw [e5, Nat.mul_comm, ← hc]
    exact p1
  have e5 : 2 ^ (128 - k) * 2 ^ (k - 64) = 18446744073709551616 := by rw [← Nat.pow_add, show 128 - k + (k - 64) = 64 by omega]
  rw [e5] at hlt
  have ew : IntKind.u64.wrap ((2 : Int) ^ (k - 1 - 64)) = ((2 ^ (k - 1 - 64) : Nat) : Int) := by
    have : ((2 : Int) ^ (k - 1 - 64)) = ((2 ^ (k - 1 - 64) : Nat) : Int) := by rw [Int.natCast_pow]; rfl
    rw [this]
    exact Mul64.wrapN _ (by omega)
  have eo : bits BinOp.or IntKind.u64 (R1 : Int) ((2 ^ (k - 1 - 64) : Nat) : Int) = ((R1 + 2 ^ (k - 1 - 64) : Nat) : Int) := by
    rw [u64_or_nat _ _ p1 (by omega), nat_join (k - 64) _ _ hR1 (by omega)]
  rw [ew, eo, e2]
  have := IsU.mk' (h := R1 + 2 ^ (k - 1 - 64)) (l := R0) (by omega) p0
  refine this.cast ?_
  rw [Nat.add_mul]
  omega

/-- A root's next bit, in the lower word. -/
theorem root_lo {r1 r0 : Int} {r k : Nat} (u : IsU r1 r0 r) (hm : r % 2 ^ k = 0) (h1 : 1 ≤ k) (h64 : k ≤ 64) :
    IsU r1 (bits BinOp.or IntKind.u64 r0 (IntKind.u64.wrap (2 ^ (k - 1)))) (r + 2 ^ (k - 1)) := by
  obtain ⟨R1, R0, rfl, rfl, p1, p0, rfl⟩ := u.nat
  have ek : 2 ^ k = 2 * 2 ^ (k - 1) := by
    rw [show k = (k - 1) + 1 by omega, Nat.pow_succ, Nat.mul_comm]; simp
  have e64 : 2 ^ (64 - k) * 2 ^ k = 18446744073709551616 := by rw [← Nat.pow_add, show 64 - k + k = 64 by omega]
  have hp : 2 ^ (k - 1) ≤ 2 ^ 63 := Nat.pow_le_pow_right (by decide) (by omega)
  have hpos : 0 < 2 ^ (k - 1) := Nat.two_pow_pos _
  have hR0 : R0 % 2 ^ k = 0 := by
    have : (R1 * 18446744073709551616 + R0) % 2 ^ k = R0 % 2 ^ k := by
      rw [← e64, ← Nat.mul_assoc, Nat.add_comm, Nat.add_mul_mod_self_right]
    rw [← this]; exact hm
  have hlt : R0 + 2 ^ k ≤ 18446744073709551616 := by
    obtain ⟨c, hc⟩ := Nat.dvd_of_mod_eq_zero hR0
    rw [hc, ← e64, Nat.mul_comm (2 ^ k) c, ← Nat.succ_mul]
    apply Nat.mul_le_mul_right
    rw [Nat.succ_le_iff]
    refine Nat.lt_of_mul_lt_mul_right (a := 2 ^ k) ?_
    rw [e64, Nat.mul_comm, ← hc]
    exact p0
  have ew : IntKind.u64.wrap ((2 : Int) ^ (k - 1)) = ((2 ^ (k - 1) : Nat) : Int) := by
    have : ((2 : Int) ^ (k - 1)) = ((2 ^ (k - 1) : Nat) : Int) := by rw [Int.natCast_pow]; rfl
    rw [this]
    exact Mul64.wrapN _ (by omega)
  have eo : bits BinOp.or IntKind.u64 (R0 : Int) ((2 ^ (k - 1) : Nat) : Int) = ((R0 + 2 ^ (k - 1) : Nat) : Int) := by
    rw [u64_or_nat _ _ p0 (by omega), nat_join k _ _ hR0 (by omega)]
  rw [ew, eo]
  have := IsU.mk' (h := R1) (l := R0 + 2 ^ (k - 1)) p1 (by omega)
  exact this.cast (by omega)

/-- The state of the root's search: the bits from k on are found. -/
structure RInv (N k r x y : Nat) : Prop where
  mult : r % 2 ^ k = 0
  le : r * r ≤ N
  gt : N < (r + 2 ^ k) * (r + 2 ^ k)
  sq : x * 340282366920938463463374607431768211456 + y = r * r

theorem RInv.start {h l : Nat} (hh : h < 340282366920938463463374607431768211456) (hl : l < 340282366920938463463374607431768211456) : RInv (h * 340282366920938463463374607431768211456 + l) 128 0 0 0 :=
  ⟨by simp, by simp, by rw [Nat.zero_add, show (2 ^ 128 : Nat) = 340282366920938463463374607431768211456 from rfl]; omega, by simp⟩

theorem pow_half {k : Nat} (h : 1 ≤ k) : 2 ^ k = 2 ^ (k - 1) + 2 ^ (k - 1) := by
  have : 2 ^ k = 2 ^ (k - 1) * 2 := by rw [← Nat.pow_succ, Nat.succ_eq_add_one, Nat.sub_add_cancel h]
  omega

theorem RInv.yes {N k r x y a b : Nat} (i : RInv N k r x y) (h : 1 ≤ k) (hle : (r + 2 ^ (k - 1)) * (r + 2 ^ (k - 1)) ≤ N) (hs : a * 340282366920938463463374607431768211456 + b = (r + 2 ^ (k - 1)) * (r + 2 ^ (k - 1))) : RInv N (k - 1) (r + 2 ^ (k - 1)) a b := by
  have e := pow_half h
  refine ⟨?_, hle, ?_, hs⟩
  · have : r % 2 ^ (k - 1) = 0 := by
      have h1 := i.mult
      have h2 : 2 ^ (k - 1) ∣ 2 ^ k := Nat.pow_dvd_pow 2 (by omega)
      exact Nat.mod_eq_zero_of_dvd (Nat.dvd_trans h2 (Nat.dvd_of_mod_eq_zero h1))
    rw [Nat.add_mod_right]; exact this
  · have := i.gt
    rw [e, ← Nat.add_assoc] at this
    exact this

theorem RInv.no {N k r x y : Nat} (i : RInv N k r x y) (h : 1 ≤ k) (hgt : N < (r + 2 ^ (k - 1)) * (r + 2 ^ (k - 1))) : RInv N (k - 1) r x y := by
  refine ⟨?_, i.le, hgt, i.sq⟩
  have h1 := i.mult
  have h2 : 2 ^ (k - 1) ∣ 2 ^ k := Nat.pow_dvd_pow 2 (by omega)
  exact Nat.mod_eq_zero_of_dvd (Nat.dvd_trans h2 (Nat.dvd_of_mod_eq_zero h1))

end Go.Proofs.YtmldjlgeeljfdaaGreat
