/-
  wide: a number's text; the number of a text.
-/
import Derived.Test.YtpambeengdhhmaaGreatDoorVcM
import Derived.Test.YtpambeengdhhmaaGreatDoorVcY
import Derived.Laws.RangeAny
namespace Go.Proofs.YtpambeengdhhmaaGreatDoor
open Go.RowKit
set_option linter.unusedVariables false
set_option linter.unusedSimpArgs false
set_option maxRecDepth 100000

-- texts out of digits
def bz (z : Int) : DV := .v (.int .u8 z)
def tl (a : Nat) : Nat → List Int
  | 0 => []
  | k + 1 => ((48 + dig a k : Nat) : Int) :: tl a k
theorem tl_len (a : Nat) : ∀ k, (tl a k).length = k
  | 0 => rfl
  | k + 1 => by simp [tl, tl_len a k]
/-- A number's decimal text. -/
def txS (a : Nat) : ByteArray := if a = 0 then ⟨#[48]⟩ else strOf (tl a (nd a))
/-- The row of bytes when k digits stand. -/
def tcs (a k : Nat) : List DV := List.replicate (40 - k) (.v (.int .u8 0)) ++ (tl a k).map fun z => .v (.int .u8 z)
theorem tcs_len {a k : Nat} (h : k ≤ 40) : (tcs a k).length = 40 := by simp [tcs, tl_len]; omega
theorem itCs_len {cs : List DV} (h : cs.length ≠ 1) : itCs cs = false := by
  unfold itCs
  split
  · simp at h
  · rfl
theorem tcs_it {a k : Nat} (h : k ≤ 40) : itCs (tcs a k) = false := itCs_len (by rw [tcs_len h]; decide)
theorem tcs_step {a k : Nat} {c z : Int} (hk : k < 40) (hc : c = 39 - (k : Int)) (hz : z = ((48 + dig a k : Nat) : Int)) : splice (tcs a k) (0 + c.toNat * 1) [.v (.int .u8 z)] = tcs a (k + 1) := by
  have e : 0 + c.toNat * 1 = 39 - k := by omega
  rw [e]
  unfold splice tcs
  have e1 : 40 - k = (39 - k) + 1 := by omega
  have e2 : 40 - (k + 1) = 39 - k := by omega
  rw [e1, e2, List.replicate_succ', List.append_assoc]
  have hl : (List.replicate (39 - k) (DV.v (.int .u8 0))).length = 39 - k := by simp
  generalize List.replicate (39 - k) (DV.v (.int .u8 0)) = r at hl ⊢
  rw [← hl]
  simp [tl, hz]
theorem tcs_drop {a k : Nat} {c : Int} (hk : k ≤ 40) (hc : c = 40 - (k : Int)) : ((tcs a k).drop (c.toNat * 1)).take (k * 1) = (tl a k).map fun z => .v (.int .u8 z) := by
  have e : c.toNat * 1 = 40 - k := by omega
  rw [e]
  unfold tcs
  rw [List.drop_append_of_le_length (by simp), List.drop_of_length_le (by simp), List.nil_append, List.take_of_length_le (by simp [tl_len])]

theorem div_ten_step {a m k : Nat} (h : m = a / 10 ^ k) (hm : m < B128) : (0 * B128 + m) / 10 % B128 = a / 10 ^ (k + 1) := by
  rw [Nat.zero_mul, Nat.zero_add, Nat.mod_eq_of_lt (by omega), h, Nat.div_div_eq_div_mul, ← Nat.pow_succ]
theorem rem_ten_step {a m k : Nat} (h : m = a / 10 ^ k) : (0 * B128 + m) % 10 = dig a k := by
  rw [Nat.zero_mul, Nat.zero_add, h]; rfl
theorem pow39 : B128 ≤ 10 ^ 39 := by decide
theorem small_k {a k : Nat} (ha : a < B128) (h : a / 10 ^ k ≠ 0) : k < 39 := by
  apply Classical.byContradiction
  intro hn
  apply h
  apply Nat.div_eq_of_lt
  have h1 : 10 ^ 39 ≤ 10 ^ k := Nat.pow_le_pow_right (by decide) (by omega)
  have := pow39
  omega
theorem nd_of {a k : Nat} (h0 : a / 10 ^ k = 0) (h1 : k = 0 ∨ a / 10 ^ (k - 1) ≠ 0) : nd a = k := by
  have hlt : a < 10 ^ k := by
    apply Classical.byContradiction
    intro hn
    have : 1 ≤ a / 10 ^ k := (Nat.le_div_iff_mul_le (Nat.pow_pos (by decide))).2 (by omega)
    omega
  have hle := nd_le _ _ hlt
  rcases h1 with h1 | h1
  · omega
  · apply Classical.byContradiction
    intro hne
    apply h1
    exact div_nd (by omega)
theorem hl_zero {m : Nat} : hiW m = 0 ∧ loW m = 0 ↔ m = 0 := by
  constructor
  · rintro ⟨h1, h2⟩
    exact hl_inj (b := 0) h1 h2
  · rintro rfl; exact ⟨rfl, rfl⟩

theorem cw_ZeroB {m : Nat} (hm : m < B128) : HasC Tryz.prog 104 [dU m] (fun y => ∃ c, y = .v (.bool c) ∧ (c = true ↔ m = 0)) :=
  (cw_Zero hm).mono fun y ⟨c, h1, h2⟩ => ⟨c, h1, h2⟩
theorem cw_DivTen {m : Nat} (hm : m < B128) : HasC Tryz.prog 145 [.agg [.v (.int .u64 0), .v (.int .u64 0)], dU m, .v (.int .u64 10)] (fun y => y = .tup [dU ((0 * B128 + m) / 10 / B128), dU ((0 * B128 + m) / 10 % B128), .v (.int .u64 (((0 * B128 + m) % 10 : Nat) : Int)), .v (.bool true)]) := by
  rw [← dU_0]
  exact cw_DivWord (n := 10) (by decide) hm (by decide) (by decide)
end Go.Proofs.YtpambeengdhhmaaGreatDoor
