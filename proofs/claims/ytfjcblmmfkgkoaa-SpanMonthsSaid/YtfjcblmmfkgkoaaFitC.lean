/-
  Quotients, powers and roots that come out whole; what may be a number.
-/
import Derived.Test.YtfjcblmmfkgkoaaRefF
import Derived.Test.YtfjcblmmfkgkoaaLawM
namespace Go.Proofs.Ytfjcblmmfkgkoaa
open Go.RowKit
set_option linter.unusedVariables false
set_option linter.unusedSimpArgs false
set_option maxRecDepth 100000

theorem strip_own {c k : Nat} (h : k = 0 ∨ c % 10 ≠ 0) : strip k c = (c, 0) := by
  rcases h with h | h
  · subst h
    exact strip_0 c
  · cases k with
    | zero => exact strip_0 c
    | succ k => exact strip_stop h
theorem strip_noughts {c k j : Nat} (h : k = 0 ∨ c % 10 ≠ 0) : strip (j + k) (c * 10 ^ j) = (c, j) := by
  rw [strip_mul, strip_own h]
  simp
/-- A quotient that comes out. -/
theorem div_exact {a b c j : Nat} {s : Bool} {like : Int} (ha0 : a ≠ 0) (hb0 : b ≠ 0) (he : a * 10 ^ j = c * b) (hj : j ≤ divN a b) (hc : j = 0 ∨ c % 10 ≠ 0) (hcE : c < E34) (h1 : -6176 ≤ like - j) (h2 : like - j ≤ 6111) : divT s a b like = (s, c, like - j, true) := by
  have hbp := Nat.pos_of_ne_zero hb0
  obtain ⟨i, hi⟩ : ∃ i, divN a b = i + j := ⟨divN a b - j, by omega⟩
  have eA : a * 10 ^ divN a b = c * 10 ^ i * b := by
    rw [hi, Nat.pow_add, Nat.mul_comm (10 ^ i), ← Nat.mul_assoc, he, Nat.mul_right_comm]
  have hr : a * 10 ^ divN a b % b = 0 := by rw [eA]; exact Nat.mul_mod_left _ _
  have hq : a * 10 ^ divN a b / b = c * 10 ^ i := by rw [eA]; exact Nat.mul_div_cancel _ hbp
  have hQ : divQ a b = (c, i) := by rw [divQ, if_pos hr, hq, hi]; exact strip_noughts hc
  have hm : divMore a b = false := by rw [divMore]; simpa using hr
  have hc0 : c ≠ 0 := by
    rintro rfl
    have hp : 0 < a * 10 ^ j := Nat.mul_pos (Nat.pos_of_ne_zero ha0) (Nat.pow_pos (by decide))
    omega
  rw [divT, if_neg ha0, hQ, hm, hi, show like - ((i + j : Nat) : Int) + (((c, i) : Nat × Nat).2 : Int) = like - (j : Int) by simp; omega]
  exact fitT_own' hcE hc0 h1 h2
theorem qdiv_exact {a b c j : Nat} {s : Bool} {like : Int} (ha0 : a ≠ 0) (hb0 : b ≠ 0) (he : a * 10 ^ j = c * b) (hj : j ≤ divN a b) (hc : j = 0 ∨ c % 10 ≠ 0) (hcE : c < E34) (h1 : -6176 ≤ like - j) (h2 : like - j ≤ 6111) : qDivT s a b like = (s, c, like - j, true) := by
  rw [qDivT, if_neg hb0]
  exact div_exact ha0 hb0 he hj hc hcE h1 h2
theorem qdiv_zero {b : Nat} {s : Bool} {like : Int} (hb0 : b ≠ 0) (h1 : -6176 ≤ like) (h2 : like ≤ 6111) : qDivT s 0 b like = (false, 0, like, true) := by
  rw [qDivT, if_neg hb0, divT, if_pos rfl]
  exact fitT_zero h1 h2
/-- The root of a square. -/
theorem root_exact {p : Nat} {y : Int} (hp0 : p ≠ 0) (hE : p * p < E34) (h1 : -6176 ≤ y) (h2 : y ≤ 6111) : rootT (p * p) (2 * y) = (false, p, y, true) := by
  have hpp : p * p ≠ 0 := fun h => by rcases Nat.mul_eq_zero.1 h with k | k <;> exact hp0 k
  have hpE : p < E34 := Nat.lt_of_le_of_lt (Nat.le_mul_self p) hE
  obtain ⟨k1, k2, k3, k4, k5⟩ := root_nd (x := 2 * y) hE hpp
  obtain ⟨h, hh⟩ : ∃ h, rootN (p * p) (2 * y) = h + h := ⟨rootN (p * p) (2 * y) / 2, by omega⟩
  have eA : p * p * 10 ^ rootN (p * p) (2 * y) = p * 10 ^ h * (p * 10 ^ h) := by rw [hh, Nat.pow_add, sq_mul]
  have hL : rootL (p * p) (2 * y) = h := by unfold rootL; omega
  have hQ : rootQ (p * p) (2 * y) = (p, h) := by
    rw [rootQ, eA, isq_sq, if_pos rfl, hL]
    exact strip_noughts (k := 0) (.inl rfl)
  have hm : rootMore (p * p) (2 * y) = false := by rw [rootMore, eA, isq_sq]; simp
  rw [rootT, if_neg hpp, hQ, hm, hh, show (2 * y - ((h + h : Nat) : Int)) / 2 + (((p, h) : Nat × Nat).2 : Int) = y by simp; omega]
  exact fitT_own' hpE hp0 h1 h2
theorem root_zero {x : Int} (h1 : -6176 ≤ x / 2) (h2 : x / 2 ≤ 6111) : rootT 0 x = (false, 0, x / 2, true) := by
  rw [rootT, if_pos rfl]
  exact fitT_zero h1 h2
theorem qRoot_pos {g : Bool} {a : Nat} {x : Int} (h : a = 0 ∨ g = false) : qRootT g a x = rootT a x := by
  rw [qRootT, if_neg]
  rintro ⟨h1, h2⟩
  rcases h with h | h
  · exact h1 h
  · rw [h] at h2
    cases h2

theorem mulT_own {t u : T4} (h : t.2.1 * u.2.1 < E34) (h0 : t.2.1 * u.2.1 ≠ 0) (h1 : -6176 ≤ t.2.2.1 + u.2.2.1) (h2 : t.2.2.1 + u.2.2.1 ≤ 6111) : mulT t u = (t.1 != u.1, t.2.1 * u.2.1, t.2.2.1 + u.2.2.1, true) := fitT_own' h h0 h1 h2
theorem powStep_one (a : T4) : powStep a false (false, 1, 0, true) = (false, 1, 0, true) := by
  have h : mulT (false, 1, 0, true) (false, 1, 0, true) = (false, 1, 0, true) := mulT_own (by decide) (by decide) (by decide) (by decide)
  rw [powStep, h]
  simp
theorem powGo_high (a : T4) (m : Nat) {i : Nat} (hm : m < 2 ^ i) : ∀ d, powGo a m (i + d) (false, 1, 0, true) = powGo a m i (false, 1, 0, true)
  | 0 => rfl
  | d + 1 => by
    have h0 : m / 2 ^ (i + d) = 0 := Nat.div_eq_of_lt (Nat.lt_of_lt_of_le hm (Nat.pow_le_pow_right (by decide) (by omega)))
    rw [show i + (d + 1) = (i + d) + 1 by omega, powGo_step (b := false) (by rw [h0]; simp) (powStep_one a), if_pos rfl]
    exact powGo_high a m hm d
theorem pow_0 (a : T4) : powT a 0 = (false, 1, 0, true) := powT_yes (by decide) (by decide) (powGo_high a 0 (i := 0) (by decide) 31)
theorem pow_1 {g : Bool} {c : Nat} {x : Int} (h : c < E34) (h0 : c = 0 → g = false) (h1 : -6176 ≤ x) (h2 : x ≤ 6111) : powT (g, c, x, true) 1 = (g, c, x, true) := by
  refine powT_yes (by decide) (by decide) ?_
  show powGo (g, c, x, true) 1 (1 + 30) _ = _
  have hm : mulT (false, 1, 0, true) (g, c, x, true) = (g, c, x, true) := by
    show fitT 1 (false != g) (1 * c) (0 + x) false = _
    rw [Nat.one_mul, Int.zero_add, fitT_own h h1 h2]
    split
    · rename_i hc
      rw [h0 hc]
    · simp
  have h11 : mulT (false, 1, 0, true) (false, 1, 0, true) = (false, 1, 0, true) := mulT_own (by decide) (by decide) (by decide) (by decide)
  have hst : powStep (g, c, x, true) true (false, 1, 0, true) = (g, c, x, true) := by
    rw [powStep, h11, if_pos ⟨rfl, rfl⟩, hm]
  rw [powGo_high _ _ (by decide), powGo_step (b := true) (by decide) hst, if_pos rfl]
  rfl
theorem pow_m2 : powT (false, 2, 0, true) (-2) = (false, 25, -2, true) := by
  have h11 : mulT (false, 1, 0, true) (false, 1, 0, true) = (false, 1, 0, true) := mulT_own (by decide) (by decide) (by decide) (by decide)
  have h12 : mulT (false, 1, 0, true) (false, 2, 0, true) = (false, 2, 0, true) := mulT_own (by decide) (by decide) (by decide) (by decide)
  have h22 : mulT (false, 2, 0, true) (false, 2, 0, true) = (false, 4, 0, true) := mulT_own (by decide) (by decide) (by decide) (by decide)
  have hG : powGo (false, 2, 0, true) 2 31 (false, 1, 0, true) = (false, 4, 0, true) := by
    show powGo (false, 2, 0, true) 2 (2 + 29) _ = _
    have s1 : powStep (false, 2, 0, true) true (false, 1, 0, true) = (false, 2, 0, true) := by rw [powStep, h11, if_pos ⟨rfl, rfl⟩, h12]
    have s2 : powStep (false, 2, 0, true) false (false, 2, 0, true) = (false, 4, 0, true) := by rw [powStep, h22]; simp
    rw [powGo_high _ _ (by decide), powGo_step (b := true) (by decide) s1, if_pos rfl, powGo_step (b := false) (by decide) s2, if_pos rfl]
    rfl
  rw [powT_neg (by decide) (by decide) hG]
  have h := qdiv_exact (a := 1) (b := 4) (c := 25) (j := 2) (s := false != false) (like := 0 - 0) (by decide) (by decide) (by decide) (by unfold divN; rw [nd_pos (show (4 : Nat) ≠ 0 by decide), nd_pos (show (1 : Nat) ≠ 0 by decide)]; simp [nd_zero]) (.inr (by decide)) (by decide) (by decide) (by decide)
  rw [h]
  rfl
theorem nd_1 {n : Nat} (h0 : n ≠ 0) (h : n < 10) : nd n = 1 := by
  have := nd_le 1 n (by simpa using h)
  have := nd_pos1 h0
  omega
/-- A third. -/
theorem div_third : ∃ c, qDivT false 1 3 0 = (false, c, -34, true) := by
  have hN : divN 1 3 = 35 := by unfold divN; rw [nd_1 (by decide) (by decide), nd_1 (by decide) (by decide)]
  have hQ : divQ 1 3 = (33333333333333333333333333333333333, 0) := by
    rw [divQ, hN, if_neg (by decide)]
  have hm : divMore 1 3 = true := by rw [divMore, hN]; decide
  have hnd : nd 33333333333333333333333333333333333 = 35 := by
    have h1 := nd_le 35 33333333333333333333333333333333333 (by decide)
    have h2 : 34 < nd 33333333333333333333333333333333333 := nd_gt (by decide)
    omega
  refine ⟨3333333333333333333333333333333333, ?_⟩
  rw [qDivT, if_neg (by decide), divT, if_neg (by decide), hQ, hm, hN]
  show fitT 1 false 33333333333333333333333333333333333 (-35) true = _
  rw [fitT_U _ _ _ _ (by omega)]
  have hk : fitKU 33333333333333333333333333333333333 (-35) = 1 := by unfold fitKU; rw [hnd]; decide
  have hu : upB 1 false 33333333333333333333333333333333333 true 1 = false := by
    rw [← Bool.not_eq_true, upB_iff]
    have hL : lastD 33333333333333333333333333333333333 1 = 3 := by decide
    rw [hL]
    unfold UpP
    simp
  have hc : cutQ 1 false 33333333333333333333333333333333333 true 1 = 3333333333333333333333333333333333 := by
    unfold cutQ
    rw [hu]
    decide
  unfold fitU
  rw [hk, hc]
  have h' : ¬ E34 ≤ 3333333333333333333333333333333333 := by decide
  rw [fit2N, if_neg h', fit2E, if_neg h', fitE, if_neg (by decide)]
  have hd : fitD 3333333333333333333333333333333333 (-35 + ((1 : Nat) : Int)) = 0 := by unfold fitD; omega
  rw [hd, if_neg (by decide)]
  decide

/-- Every root is a number. -/
theorem root_ok {a : Nat} {x : Int} (ha : a < E34) (h1 : -6176 ≤ x) (h2 : x ≤ 6111) : ∃ k y, rootT a x = (false, k, y, true) ∧ (k = 0 ↔ a = 0) := by
  by_cases ha0 : a = 0
  · subst ha0
    exact ⟨0, x / 2, root_zero (by omega) (by omega), by simp⟩
  · obtain ⟨k1, k2, k3, k4, k5⟩ := root_nd (x := x) ha ha0
    have hA0 : isq (a * 10 ^ rootN a x) ≠ 0 := fun h => by rw [h, nd_zero] at k1; omega
    rw [rootT, if_neg ha0]
    have hq : ∃ q j, rootQ a x = (q, j) ∧ q ≠ 0 ∧ nd q ≤ 36 ∧ (j : Int) ≤ 35 ∧ (rootMore a x = true → 35 ≤ nd q ∧ j = 0) := by
      rw [rootQ, rootMore]
      split
      · rename_i hs
        obtain ⟨s1, s2⟩ := strip_spec (rootL a x) (isq (a * 10 ^ rootN a x))
        refine ⟨_, _, rfl, fun h => ?_, Nat.le_trans (strip_nd _ _) k2, ?_, fun h => ?_⟩
        · rw [h, Nat.zero_mul] at s1
          exact hA0 s1.symm
        · have : rootL a x ≤ 35 := by unfold rootL; omega
          omega
        · simp [hs] at h
      · exact ⟨_, _, rfl, hA0, k2, by simp, fun _ => ⟨k1, rfl⟩⟩
    obtain ⟨q, j, hQ, hq0, hq1, hj, hm⟩ := hq
    rw [hQ]
    show ∃ k y, fitT 1 false q ((x - (rootN a x : Int)) / 2 + (j : Int)) (rootMore a x) = (false, k, y, true) ∧ _
    obtain ⟨e, he⟩ : ∃ e, e = (x - (rootN a x : Int)) / 2 + (j : Int) := ⟨_, rfl⟩
    rw [← he]
    have he1 : -3200 ≤ e ∧ e ≤ 3200 := by omega
    rw [fitT_U _ _ _ _ (by omega), fitU]
    have hk : fitKU q e = nd q - 34 := by unfold fitKU; omega
    rw [hk]
    have hc0 : cutQ 1 false q (rootMore a x) (nd q - 34) ≠ 0 := by
      have : 0 < q / 10 ^ (nd q - 34) := Nat.div_pos (Nat.le_trans (Nat.pow_le_pow_right (by decide) (by have := nd_pos1 hq0; omega)) (ge_nd hq0)) (Nat.pow_pos (by decide))
      unfold cutQ
      omega
    have hcE : cutQ 1 false q (rootMore a x) (nd q - 34) ≤ E34 := cutQ_E34 (by omega)
    generalize cutQ 1 false q (rootMore a x) (nd q - 34) = c at *
    have hf0 : fit2N 1 false c ≠ 0 := by
      unfold fit2N
      split
      · rename_i h
        have : 0 < c / 10 ^ 1 := Nat.div_pos (Nat.le_trans (by decide) h) (by decide)
        unfold cutQ
        omega
      · exact hc0
    have hfe : e + ((nd q - 34 : Nat) : Int) ≤ fit2E c (e + ((nd q - 34 : Nat) : Int)) ∧ fit2E c (e + ((nd q - 34 : Nat) : Int)) ≤ e + ((nd q - 34 : Nat) : Int) + 1 := by unfold fit2E; split <;> omega
    generalize fit2E c (e + ((nd q - 34 : Nat) : Int)) = e2 at *
    generalize fit2N 1 false c = n2 at *
    have hd : fitD n2 e2 = 0 := by unfold fitD; omega
    rw [fitE, if_neg hf0, hd, if_neg (by omega)]
    exact ⟨_, _, rfl, by simp [hf0, ha0]⟩

end Go.Proofs.Ytfjcblmmfkgkoaa
