/-
  Decimal digits of natural numbers, the lowest first, without noughts above: plain facts, no program in sight.
-/
import Derived.Test.YtpambeengdhhmaaGreatDoorRows
namespace Go.Proofs.YtpambeengdhhmaaGreatDoor

/-- The digits of n, the lowest first. -/
def digs (n : Nat) : List Nat := if n = 0 then [] else n % 10 :: digs (n / 10)
termination_by n
decreasing_by omega

theorem digs_zero : digs 0 = [] := by rw [digs]; simp
theorem digs_pos {n : Nat} (h : n ≠ 0) : digs n = n % 10 :: digs (n / 10) := by rw [digs, if_neg h]

/-- How many digits. -/
def nd (n : Nat) : Nat := (digs n).length
theorem nd_zero : nd 0 = 0 := by simp [nd, digs_zero]
theorem nd_pos {n : Nat} (h : n ≠ 0) : nd n = nd (n / 10) + 1 := by simp [nd, digs_pos h]
theorem nd_shift (k : Nat) : ∀ n : Nat, 10 ^ k ≤ n → nd n = k + nd (n / 10 ^ k) := by
  induction k with
  | zero => intro n _; simp
  | succ k ih =>
    intro n h
    have h0 : n ≠ 0 := by
      have : 0 < 10 ^ (k + 1) := Nat.pow_pos (by decide)
      omega
    have h1 : 10 ^ k ≤ n / 10 := by
      rw [Nat.le_div_iff_mul_le (by decide), ← Nat.pow_succ]; exact h
    rw [nd_pos h0, ih _ h1, Nat.div_div_eq_div_mul, Nat.pow_succ, Nat.mul_comm 10]
    omega
theorem nd_le (k : Nat) : ∀ n : Nat, n < 10 ^ k → nd n ≤ k := by
  induction k with
  | zero => intro n h; simp at h; subst h; simp [nd_zero]
  | succ k ih =>
    intro n h
    by_cases h0 : n = 0
    · subst h0; simp [nd_zero]
    · rw [nd_pos h0]
      have := ih (n / 10) (by rw [Nat.pow_succ] at h; omega)
      omega

/-- The value of some digits, the lowest first. -/
def dval : List Nat → Nat
  | [] => 0
  | d :: ds => d + 10 * dval ds

/-- Digits without noughts above. -/
def Canon (ds : List Nat) : Prop := (∀ d ∈ ds, d < 10) ∧ ds.getLast? ≠ some 0

theorem dval_digs (n : Nat) : dval (digs n) = n := by
  induction n using Nat.strongRecOn with
  | _ n ih =>
    by_cases h : n = 0
    · subst h; simp [digs_zero, dval]
    · rw [digs_pos h, dval, ih (n / 10) (by omega)]; omega
theorem digs_lt {n d : Nat} (h : d ∈ digs n) : d < 10 := by
  induction n using Nat.strongRecOn with
  | _ n ih =>
    by_cases h0 : n = 0
    · subst h0; simp [digs_zero] at h
    · rw [digs_pos h0, List.mem_cons] at h
      rcases h with h | h
      · omega
      · exact ih (n / 10) (by omega) h
/-- Digits below 10 whose highest is none's nought are the digits of their value. -/
theorem digs_dval (ds : List Nat) (h : Canon ds) : digs (dval ds) = ds := by
  induction ds with
  | nil => simp [dval, digs_zero]
  | cons d ds ih =>
    obtain ⟨h1, h2⟩ := h
    have hd := h1 d (by simp)
    cases ds with
    | nil =>
      have hd0 : d ≠ 0 := by simpa using h2
      simp only [dval, Nat.mul_zero, Nat.add_zero]
      rw [digs_pos hd0, show d / 10 = 0 by omega, digs_zero, Nat.mod_eq_of_lt hd]
    | cons e es =>
      have hc : Canon (e :: es) := ⟨fun x hx => h1 x (by simp [hx]), by simpa using h2⟩
      have ih' := ih hc
      have hne : dval (e :: es) ≠ 0 := by
        intro h0
        rw [h0, digs_zero] at ih'
        simp at ih'
      rw [dval, digs_pos (by omega), show (d + 10 * dval (e :: es)) / 10 = dval (e :: es) by omega, ih', show (d + 10 * dval (e :: es)) % 10 = d by omega]

end Go.Proofs.YtpambeengdhhmaaGreatDoor
