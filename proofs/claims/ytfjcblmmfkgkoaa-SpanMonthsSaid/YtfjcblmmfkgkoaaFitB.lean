/-
  Quotients and roots with more digits are fitted alike.
-/
import Derived.Test.YtfjcblmmfkgkoaaRefZ
namespace Go.Proofs.Ytfjcblmmfkgkoaa
open Go.RowKit
set_option linter.unusedVariables false
set_option linter.unusedSimpArgs false
set_option maxRecDepth 100000

theorem nd_pos1 {n : Nat} (h : n ≠ 0) : 1 ≤ nd n := by
  have := nd_pos h
  omega
theorem strip_nd (k q : Nat) : nd (strip k q).1 ≤ nd q := by
  refine nd_mono ?_
  have := (strip_spec k q).1
  have hp : 0 < 10 ^ (strip k q).2 := Nat.pow_pos (by decide)
  calc (strip k q).1 ≤ (strip k q).1 * 10 ^ (strip k q).2 := Nat.le_mul_of_pos_right _ hp
    _ = q := this

/-- The same quotient of more digits. -/
theorem div_digits {A b j : Nat} (hb : 0 < b) : A * 10 ^ j / b = A / b * 10 ^ j + A % b * 10 ^ j / b ∧ A * 10 ^ j % b = A % b * 10 ^ j % b ∧ A % b * 10 ^ j / b < 10 ^ j := by
  have e : A * 10 ^ j = b * (A / b * 10 ^ j) + A % b * 10 ^ j := by
    rw [← Nat.mul_assoc, ← Nat.add_mul, Nat.div_add_mod]
  refine ⟨?_, ?_, ?_⟩
  · rw [e, Nat.mul_add_div hb]
  · rw [e, Nat.mul_add_mod]
  · refine Nat.div_lt_of_lt_mul ?_
    exact Nat.mul_lt_mul_of_pos_right (Nat.mod_lt _ hb) (Nat.pow_pos (by decide))
theorem div_nd35 {a b : Nat} (ha : a < E34) (hb : b < E34) (ha0 : a ≠ 0) (hb0 : b ≠ 0) : 35 ≤ nd (a * 10 ^ divN a b / b) ∧ nd (a * 10 ^ divN a b / b) ≤ 36 ∧ 2 ≤ divN a b ∧ divN a b ≤ 68 := by
  have h1 := nd_le 34 a ha
  have h2 := nd_le 34 b hb
  have h3 := nd_pos1 ha0
  have h4 := nd_pos1 hb0
  have hn : divN a b = 35 + nd b - nd a := rfl
  refine ⟨?_, ?_, by omega, by omega⟩
  · refine nd_gt ((Nat.le_div_iff_mul_le (Nat.pos_of_ne_zero hb0)).2 ?_)
    have e1 := ge_nd ha0
    have e2 := Nat.mul_le_mul_right (10 ^ divN a b) e1
    rw [← Nat.pow_add, show nd a - 1 + divN a b = 34 + nd b by omega, Nat.pow_add] at e2
    exact Nat.le_trans (Nat.mul_le_mul_left _ (Nat.le_of_lt (lt_nd b))) e2
  · exact nd_le _ _ (Nat.div_lt_of_lt_mul (by rw [Nat.mul_comm b]; exact (div_room ha hb (Nat.pos_of_ne_zero hb0)).1))
theorem div_law {a b : Nat} (ha : a < E34) (hb : b < E34) (ha0 : a ≠ 0) (hb0 : b ≠ 0) (s : Bool) (like : Int) :
    (a * 10 ^ 80 % b = 0 → fitU 1 s (strip 80 (a * 10 ^ 80 / b)).1 (like - 80 + ((strip 80 (a * 10 ^ 80 / b)).2 : Nat)) false = divT s a b like) ∧
    (a * 10 ^ 80 % b ≠ 0 → fitU 1 s (a * 10 ^ 80 / b) (like - 80) true = divT s a b like) := by
  obtain ⟨h1, h2, h3, h4⟩ := div_nd35 ha hb ha0 hb0
  have hbp := Nat.pos_of_ne_zero hb0
  obtain ⟨j, hj⟩ : ∃ j, 80 = j + divN a b := ⟨80 - divN a b, by omega⟩
  have hp : 0 < 10 ^ j := Nat.pow_pos (by decide)
  have e80 : a * 10 ^ 80 = a * 10 ^ divN a b * 10 ^ j := by rw [Nat.mul_assoc, ← Nat.pow_add, Nat.add_comm, ← hj]
  have hdT : divT s a b like = fitU 1 s (divQ a b).1 (like - (divN a b : Nat) + ((divQ a b).2 : Nat)) (divMore a b) := by
    rw [divT, if_neg ha0]
    refine fitT_U _ _ _ _ ?_
    unfold divQ
    split
    · exact Nat.le_trans (strip_nd _ _) (by omega)
    · show nd (a * 10 ^ divN a b / b) ≤ 78
      omega
  rw [hdT, e80]
  obtain ⟨d1, d2, d3⟩ := div_digits (A := a * 10 ^ divN a b) (j := j) hbp
  have hl : (80 : Int) = (j : Int) + (divN a b : Int) := by omega
  by_cases hr : a * 10 ^ divN a b % b = 0
  · rw [hr, Nat.zero_mul, Nat.zero_div, Nat.add_zero] at d1
    rw [hr, Nat.zero_mul, Nat.zero_mod] at d2
    have hm : divMore a b = false := by rw [divMore]; simpa using hr
    have hQ : divQ a b = strip (divN a b) (a * 10 ^ divN a b / b) := by rw [divQ, if_pos hr]
    refine ⟨fun _ => ?_, fun h => absurd d2 h⟩
    rw [d1, show strip 80 _ = strip (j + divN a b) _ by rw [← hj], strip_mul, hQ, hm, hl]
    refine congrArg (fun e => fitU 1 s _ e false) ?_
    show like - ((j : Int) + (divN a b : Int)) + (((strip (divN a b) (a * 10 ^ divN a b / b)).2 + j : Nat) : Int) = _
    omega
  · have hm : divMore a b = true := by rw [divMore]; simpa using hr
    have hQ : divQ a b = (a * 10 ^ divN a b / b, 0) := by rw [divQ, if_neg hr]
    rw [hQ, hm, d1, d2, hl, show like - ((j : Int) + (divN a b : Int)) = like - (divN a b : Int) - (j : Int) by omega, show like - (divN a b : Int) + (((a * 10 ^ divN a b / b, 0) : Nat × Nat).2 : Int) = like - (divN a b : Int) by simp]
    constructor
    · intro h0
      refine fitU_strip h1 d3 fun h => ?_
      rcases (Nat.div_eq_zero_iff).1 h with k | k
      · omega
      · rw [Nat.mod_eq_of_lt k] at h0
        rcases Nat.mul_eq_zero.1 h0 with k1 | k1
        · exact hr k1
        · omega
    · intro h0
      exact fitU_more h1 d3 (by simp)

theorem sq_mul (q p : Nat) : q * p * (q * p) = q * q * (p * p) := by
  rw [Nat.mul_mul_mul_comm]
theorem root_digits (A j : Nat) : ∃ r, isq (A * (10 ^ j * 10 ^ j)) = isq A * 10 ^ j + r ∧ r < 10 ^ j := by
  have h1 := isq_lo A
  have h2 := isq_hi A
  have k1 := isq_lo (A * (10 ^ j * 10 ^ j))
  have k2 := isq_hi (A * (10 ^ j * 10 ^ j))
  have hp : 0 < 10 ^ j := Nat.pow_pos (by decide)
  have m1 : isq A * 10 ^ j * (isq A * 10 ^ j) ≤ A * (10 ^ j * 10 ^ j) := by rw [sq_mul]; exact Nat.mul_le_mul_right _ h1
  have m2 : A * (10 ^ j * 10 ^ j) < (isq A + 1) * 10 ^ j * ((isq A + 1) * 10 ^ j) := by rw [sq_mul]; exact Nat.mul_lt_mul_of_pos_right h2 (Nat.mul_pos hp hp)
  have n1 := sq_lt (Nat.lt_of_le_of_lt m1 k2)
  have n2 := sq_lt (Nat.lt_of_le_of_lt k1 m2)
  rw [Nat.add_mul, Nat.one_mul] at n2
  exact ⟨isq (A * (10 ^ j * 10 ^ j)) - isq A * 10 ^ j, by omega, by omega⟩
theorem root_nd {a : Nat} {x : Int} (ha : a < E34) (ha0 : a ≠ 0) : 35 ≤ nd (isq (a * 10 ^ rootN a x)) ∧ nd (isq (a * 10 ^ rootN a x)) ≤ 36 ∧ rootN a x ≤ 70 ∧ 36 ≤ rootN a x ∧ ((rootN a x : Int) + x) % 2 = 0 := by
  have h1 := nd_le 34 a ha
  have h3 := nd_pos1 ha0
  have hn : rootN a x = 70 - nd a + (70 - nd a + (x % 2).toNat) % 2 := rfl
  have hlo := isq_lo (a * 10 ^ rootN a x)
  have hhi := isq_hi (a * 10 ^ rootN a x)
  have e1 : 10 ^ 69 ≤ a * 10 ^ rootN a x := by
    have e2 := Nat.mul_le_mul_right (10 ^ rootN a x) (ge_nd ha0)
    rw [← Nat.pow_add] at e2
    exact Nat.le_trans (Nat.pow_le_pow_right (by decide) (by omega)) e2
  have e2 : a * 10 ^ rootN a x < 10 ^ 71 := by
    have e3 := Nat.mul_lt_mul_of_pos_right (lt_nd a) (show 0 < 10 ^ rootN a x from Nat.pow_pos (by decide))
    rw [← Nat.pow_add] at e3
    exact Nat.lt_of_lt_of_le e3 (Nat.pow_le_pow_right (by decide) (by omega))
  refine ⟨nd_gt ?_, nd_le _ _ ?_, by omega, by omega, by omega⟩
  · have : (10 ^ 34) * (10 ^ 34) < (isq (a * 10 ^ rootN a x) + 1) * (isq (a * 10 ^ rootN a x) + 1) := Nat.lt_of_lt_of_le (by decide) (Nat.le_trans e1 (Nat.le_of_lt hhi))
    have := sq_lt this
    omega
  · exact sq_lt (Nat.lt_of_le_of_lt hlo (Nat.lt_of_lt_of_le e2 (by decide)))
theorem root_law {a : Nat} {x : Int} (ha : a < E34) (ha0 : a ≠ 0) {n : Nat} (hn : (n : Int) = 80 + x % 2) {e like : Int} (he : e = (x - n) / 2) (hlike : like = x / 2) :
    (isq (a * 10 ^ n) * isq (a * 10 ^ n) = a * 10 ^ n → fitU 1 false (strip (like - e).toNat (isq (a * 10 ^ n))).1 (e + ((strip (like - e).toNat (isq (a * 10 ^ n))).2 : Nat)) false = rootT a x) ∧
    (isq (a * 10 ^ n) * isq (a * 10 ^ n) ≠ a * 10 ^ n → fitU 1 false (isq (a * 10 ^ n)) e true = rootT a x) := by
  obtain ⟨h1, h2, h3, h4, h5⟩ := root_nd (x := x) ha ha0
  obtain ⟨j, hj⟩ : ∃ j, n = rootN a x + (j + j) := ⟨(n - rootN a x) / 2, by omega⟩
  have hp : 0 < 10 ^ j := Nat.pow_pos (by decide)
  have eA : a * 10 ^ n = a * 10 ^ rootN a x * (10 ^ j * 10 ^ j) := by rw [hj, Nat.pow_add, Nat.pow_add, Nat.mul_assoc]
  have hrT : rootT a x = fitU 1 false (rootQ a x).1 ((x - rootN a x) / 2 + (rootQ a x).2) (rootMore a x) := by
    rw [rootT, if_neg ha0]
    refine fitT_U _ _ _ _ ?_
    unfold rootQ
    split
    · exact Nat.le_trans (strip_nd _ _) (by omega)
    · show nd (isq (a * 10 ^ rootN a x)) ≤ 78
      omega
  have hL : (like - e).toNat = j + rootL a x := by unfold rootL; omega
  have hee : e = (x - rootN a x) / 2 - (j : Int) := by omega
  rw [hrT, eA, hL]
  obtain ⟨r, d1, d2⟩ := root_digits (a * 10 ^ rootN a x) j
  by_cases hq : isq (a * 10 ^ rootN a x) * isq (a * 10 ^ rootN a x) = a * 10 ^ rootN a x
  · have hs : isq (a * 10 ^ rootN a x * (10 ^ j * 10 ^ j)) = isq (a * 10 ^ rootN a x) * 10 ^ j := by
      have : a * 10 ^ rootN a x * (10 ^ j * 10 ^ j) = isq (a * 10 ^ rootN a x) * 10 ^ j * (isq (a * 10 ^ rootN a x) * 10 ^ j) := by rw [sq_mul, hq]
      rw [this, isq_sq]
    have hm : rootMore a x = false := by rw [rootMore]; simpa using hq
    have hQ : rootQ a x = strip (rootL a x) (isq (a * 10 ^ rootN a x)) := by rw [rootQ, if_pos hq]
    rw [hs]
    refine ⟨fun _ => ?_, fun h => absurd (by rw [sq_mul, hq]) h⟩
    rw [strip_mul, hQ, hm, hee]
    refine congrArg (fun e => fitU 1 false _ e false) ?_
    show (x - rootN a x) / 2 - (j : Int) + (((strip (rootL a x) (isq (a * 10 ^ rootN a x))).2 + j : Nat) : Int) = _
    omega
  · have hm : rootMore a x = true := by rw [rootMore]; simpa using hq
    have hQ : rootQ a x = (isq (a * 10 ^ rootN a x), 0) := by rw [rootQ, if_neg hq]
    rw [hQ, hm, d1, hee, show (x - (rootN a x : Int)) / 2 + (((isq (a * 10 ^ rootN a x), 0) : Nat × Nat).2 : Int) = (x - (rootN a x : Int)) / 2 by simp]
    constructor
    · intro h0
      refine fitU_strip h1 d2 fun h => ?_
      rw [h, Nat.add_zero, sq_mul] at h0
      exact hq (Nat.eq_of_mul_eq_mul_right (Nat.mul_pos hp hp) h0)
    · intro h0
      exact fitU_more h1 d2 (by simp)

end Go.Proofs.Ytfjcblmmfkgkoaa
