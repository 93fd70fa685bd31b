/-
  What Fit answers, as plain data: without the bound on the digits that are cut; more digits of the same number change nothing.
-/
import Derived.Test.YtdlfgliokkgceaaDec6
namespace Go.Proofs.Ytdlfgliokkgceaa
open Go.RowKit
set_option linter.unusedVariables false
set_option linter.unusedSimpArgs false
set_option maxRecDepth 100000

theorem ge_nd {n : Nat} (h : n ≠ 0) : 10 ^ (nd n - 1) ≤ n := by
  rcases Nat.lt_or_ge n (10 ^ (nd n - 1)) with h1 | h1
  · exfalso
    have h7 := nd_le _ _ h1
    have := nd_pos h
    omega
  · exact h1
theorem nd_gt {n k : Nat} (h : 10 ^ k ≤ n) : k < nd n :=
  (Nat.pow_lt_pow_iff_right (by decide : 1 < 10)).1 (Nat.lt_of_le_of_lt h (lt_nd n))
theorem nd_more {N j r : Nat} (hN : N ≠ 0) (hr : r < 10 ^ j) : nd (N * 10 ^ j + r) = nd N + j := by
  have h1 := ge_nd hN
  have h2 := lt_nd N
  have h0 := nd_pos hN
  have h3 : nd (N * 10 ^ j + r) ≤ nd N + j := by
    refine nd_le _ _ ?_
    rw [Nat.pow_add]
    have := Nat.mul_le_mul_right (10 ^ j) (Nat.succ_le_of_lt h2)
    rw [Nat.succ_mul] at this
    omega
  have h4 : nd N - 1 + j < nd (N * 10 ^ j + r) := by
    refine nd_gt ?_
    rw [Nat.pow_add]
    have := Nat.mul_le_mul_right (10 ^ j) h1
    omega
  omega

theorem UpP_none {m : Int} {neg odd : Bool} : ¬ UpP m neg odd 0 false := by
  unfold UpP
  simp
theorem upB_iff {m : Int} {neg : Bool} {N k : Nat} {more : Bool} : upB m neg N more k = true ↔ UpP m neg (decide (N / 10 ^ k % 2 = 1)) (lastD N k : Nat) (@decide (restP more N k) (Classical.propDecidable _)) := by
  unfold upB
  simp only [decide_eq_true_eq]
theorem upB_congr {m : Int} {neg : Bool} {N N' k k' : Nat} {more more' : Bool} (h1 : N / 10 ^ k = N' / 10 ^ k') (h2 : lastD N k = lastD N' k') (h3 : restP more N k ↔ restP more' N' k') : upB m neg N more k = upB m neg N' more' k' := by
  have e3 : @decide (restP more N k) (Classical.propDecidable _) = @decide (restP more' N' k') (Classical.propDecidable _) := by rw [Bool.eq_iff_iff]; simp [h3]
  rw [Bool.eq_iff_iff, upB_iff, upB_iff, h1, h2, e3]
theorem cutQ_congr {m : Int} {neg : Bool} {N N' k k' : Nat} {more more' : Bool} (h1 : N / 10 ^ k = N' / 10 ^ k') (h2 : lastD N k = lastD N' k') (h3 : restP more N k ↔ restP more' N' k') : cutQ m neg N more k = cutQ m neg N' more' k' := by
  unfold cutQ
  rw [upB_congr h1 h2 h3, h1]
theorem cutQ_0 (m : Int) (neg : Bool) (N : Nat) : cutQ m neg N false 0 = N := by
  have h : upB m neg N false 0 = false := upB_eq (h := 0) (l := N) (d := 0) (mo := false) (odd := decide (N % 2 = 1)) (by simp) rfl Iff.rfl (by simp) (by simp [UpP_none])
  unfold cutQ
  rw [h]
  simp
theorem fit1N_cut (m : Int) (neg : Bool) (N : Nat) (e : Int) (more : Bool) : fit1N m neg N e more = cutQ m neg N more (fitK N e).toNat := by
  by_cases h : 0 < fitK N e ∨ more = true
  · exact (fit1_yes m neg h).1
  · obtain ⟨h1, h2⟩ : fitK N e ≤ 0 ∧ more = false := by
      constructor
      · exact Int.not_lt.1 fun k => h (.inl k)
      · cases more
        · rfl
        · exact absurd (.inr rfl) h
    subst h2
    rw [(fit1_no m neg h1).1, show (fitK N e).toNat = 0 by omega, cutQ_0]
theorem fit1E_cut (N : Nat) (e : Int) (more : Bool) : fit1E N e more = e + (fitK N e).toNat := by
  by_cases h : 0 < fitK N e ∨ more = true
  · exact (fit1_yes 0 false h).2
  · obtain ⟨h1, h2⟩ : fitK N e ≤ 0 ∧ more = false := by
      constructor
      · exact Int.not_lt.1 fun k => h (.inl k)
      · cases more
        · rfl
        · exact absurd (.inr rfl) h
    subst h2
    rw [(fit1_no 0 false h1).2]
    omega

/-- How many digits are cut, all that stand below the least exponent among them. -/
def fitKU (N : Nat) (e : Int) : Nat := max (nd N - 34) (-6176 - e).toNat
noncomputable def fitU (m : Int) (neg : Bool) (N : Nat) (e : Int) (more : Bool) : Bool × Nat × Int × Bool :=
  fitE neg (fit2N m neg (cutQ m neg N more (fitKU N e))) (fit2E (cutQ m neg N more (fitKU N e)) (e + fitKU N e))
theorem fit2_low {m : Int} {neg : Bool} {n : Nat} (h : n ≤ 1) (e : Int) : fit2N m neg n = n ∧ fit2E n e = e := by
  have h' : ¬ E34 ≤ n := by unfold E34; omega
  unfold fit2N fit2E
  exact ⟨if_neg h', if_neg h'⟩
theorem fitE_low {neg : Bool} {n : Nat} {e e' : Int} (h1 : e ≤ -6176) (h2 : e' ≤ -6176) : fitE neg n e = fitE neg n e' := by
  have d1 : fitD n e = 0 := by unfold fitD; omega
  have d2 : fitD n e' = 0 := by unfold fitD; omega
  unfold fitE
  rw [d1, d2]
  split
  · rw [show max (-6176) (min e 6111) = max (-6176 : Int) (min e' 6111) by omega]
  · rw [if_neg (by omega), if_neg (by omega), show max (e - ((0 : Nat) : Int)) (-6176) = max (e' - ((0 : Nat) : Int)) (-6176 : Int) by omega]
theorem fitT_U (m : Int) (neg : Bool) {N : Nat} (e : Int) (more : Bool) (h : nd N ≤ 78) : fitT m neg N e more = fitU m neg N e more := by
  unfold fitT fitU
  rw [fit1N_cut, fit1E_cut]
  by_cases hc : -6176 - e ≤ 100
  · have hk : (fitK N e).toNat = fitKU N e := by unfold fitK fitKU; omega
    rw [hk]
  · have k1 : (fitK N e).toNat = 100 := by unfold fitK; omega
    obtain ⟨j, hj⟩ : ∃ j, fitKU N e = 100 + j ∧ e + ((100 + j : Nat) : Int) ≤ -6176 := ⟨fitKU N e - 100, by unfold fitKU; omega, by unfold fitKU; omega⟩
    have z : N < 10 ^ 99 := Nat.lt_of_lt_of_le (lt_nd N) (Nat.pow_le_pow_right (by decide) (by omega))
    have h1 : N / 10 ^ 100 = 0 := Nat.div_eq_of_lt (Nat.lt_of_lt_of_le z (Nat.pow_le_pow_right (by decide) (by decide)))
    have h2 : lastD N 100 = 0 := by
      show N / 10 ^ 99 % 10 = 0
      rw [Nat.div_eq_of_lt z]
    obtain ⟨s1, s2, s3⟩ := cut_stop (more := more) h1 h2 j
    have hQ : cutQ m neg N more (100 + j) = cutQ m neg N more 100 := cutQ_congr (by rw [s1, h1]) (by rw [s2, h2]) s3
    have hle : cutQ m neg N more 100 ≤ 1 := by
      have := cutQ_le1 (m := m) (neg := neg) (more := more) (N := N) (k := 100)
      omega
    rw [k1, hj.1, hQ, (fit2_low (m := m) (neg := neg) hle 0).1, (fit2_low (m := m) (neg := neg) hle (e + ((100 : Nat) : Int))).2, (fit2_low (m := m) (neg := neg) hle (e + ((100 + j : Nat) : Int))).2]
    exact fitE_low (by omega) hj.2

theorem lastD_more {N j r k : Nat} (hk : 1 ≤ k) (hr : r < 10 ^ j) : lastD (N * 10 ^ j + r) (k + j) = lastD N k := by
  obtain ⟨i, rfl⟩ : ∃ i, k = i + 1 := ⟨k - 1, by omega⟩
  rw [show i + 1 + j = (j + i) + 1 by omega]
  show (N * 10 ^ j + r) / 10 ^ (j + i) % 10 = N / 10 ^ i % 10
  have hp : 0 < 10 ^ j := Nat.pow_pos (by decide)
  rw [Nat.pow_add, ← Nat.div_div_eq_div_mul, Nat.mul_comm, Nat.mul_add_div hp, Nat.div_eq_of_lt hr, Nat.add_zero]
theorem div_more {N j r k : Nat} (hr : r < 10 ^ j) : (N * 10 ^ j + r) / 10 ^ (k + j) = N / 10 ^ k := by
  have hp : 0 < 10 ^ j := Nat.pow_pos (by decide)
  rw [show k + j = j + k by omega, Nat.pow_add, ← Nat.div_div_eq_div_mul, Nat.mul_comm, Nat.mul_add_div hp, Nat.div_eq_of_lt hr, Nat.add_zero]
theorem mod_more {N j r i : Nat} (hr : r < 10 ^ j) : (N * 10 ^ j + r) % 10 ^ (j + i) ≠ 0 ↔ N % 10 ^ i ≠ 0 ∨ r ≠ 0 := by
  have hp : 0 < 10 ^ j := Nat.pow_pos (by decide)
  rw [Nat.pow_add, Nat.mod_mul, Nat.mul_comm N, Nat.mul_add_mod, Nat.mul_add_div hp, Nat.div_eq_of_lt hr, Nat.add_zero, Nat.mod_eq_of_lt hr]
  constructor
  · intro h
    by_cases h1 : N % 10 ^ i = 0
    · right
      intro h2
      rw [h1, h2] at h
      simp at h
    · exact .inl h1
  · rintro (h | h) h2
    · rcases Nat.mul_eq_zero.1 (show 10 ^ j * (N % 10 ^ i) = 0 by omega) with h3 | h3
      · omega
      · exact h h3
    · omega
theorem restP_more {N j r k : Nat} {more more' : Bool} (hk : 1 ≤ k) (hr : r < 10 ^ j) (hm : more = true ↔ more' = true ∨ r ≠ 0) : restP more' (N * 10 ^ j + r) (k + j) ↔ restP more N k := by
  obtain ⟨i, rfl⟩ : ∃ i, k = i + 1 := ⟨k - 1, by omega⟩
  rw [show i + 1 + j = (j + i) + 1 by omega]
  show more' = true ∨ (N * 10 ^ j + r) % 10 ^ (j + i) ≠ 0 ↔ more = true ∨ N % 10 ^ i ≠ 0
  rw [mod_more hr, hm]
  constructor
  · rintro (h | h | h)
    · exact .inl (.inl h)
    · exact .inr h
    · exact .inl (.inr h)
  · rintro ((h | h) | h)
    · exact .inl h
    · exact .inr (.inr h)
    · exact .inr (.inl h)
theorem cutQ_more {m : Int} {neg : Bool} {N j r k : Nat} {more more' : Bool} (hk : 1 ≤ k) (hr : r < 10 ^ j) (hm : more = true ↔ more' = true ∨ r ≠ 0) : cutQ m neg (N * 10 ^ j + r) more' (k + j) = cutQ m neg N more k :=
  cutQ_congr (div_more hr) (lastD_more hk hr) (restP_more hk hr hm)
/-- More digits of the same number are fitted alike, where it has more than 34. -/
theorem fitU_more {m : Int} {neg : Bool} {N j r : Nat} {e : Int} {more more' : Bool} (hN : 35 ≤ nd N) (hr : r < 10 ^ j) (hm : more = true ↔ more' = true ∨ r ≠ 0) : fitU m neg (N * 10 ^ j + r) (e - j) more' = fitU m neg N e more := by
  have hN0 : N ≠ 0 := by
    intro h
    rw [h, nd_zero] at hN
    omega
  have hk : fitKU (N * 10 ^ j + r) (e - j) = fitKU N e + j := by
    unfold fitKU
    rw [nd_more hN0 hr]
    omega
  unfold fitU
  rw [hk, cutQ_more (by unfold fitKU; omega) hr hm, show e - (j : Int) + ((fitKU N e + j : Nat) : Int) = e + (fitKU N e : Int) by omega]

theorem strip_mul (k q : Nat) : ∀ j, strip (j + k) (q * 10 ^ j) = ((strip k q).1, (strip k q).2 + j)
  | 0 => by simp
  | j + 1 => by
    rw [show j + 1 + k = (j + k) + 1 by omega, Nat.pow_succ, ← Nat.mul_assoc, strip_step (Nat.mul_mod_left _ _), Nat.mul_div_cancel _ (by decide), strip_mul k q j]
    rfl
theorem strip_spec : ∀ k q, (strip k q).1 * 10 ^ (strip k q).2 = q ∧ (strip k q).2 ≤ k
  | 0, q => by simp [strip_0]
  | k + 1, q => by
    by_cases h : q % 10 = 0
    · obtain ⟨h1, h2⟩ := strip_spec k (q / 10)
      rw [strip_step h]
      refine ⟨?_, Nat.succ_le_succ h2⟩
      show (strip k (q / 10)).1 * 10 ^ ((strip k (q / 10)).2 + 1) = q
      rw [Nat.pow_succ, ← Nat.mul_assoc, h1]
      omega
    · rw [strip_stop h]
      simp
theorem strip_end : ∀ k q, (strip k q).2 = k ∨ (strip k q).1 % 10 ≠ 0
  | 0, q => .inl rfl
  | k + 1, q => by
    by_cases h : q % 10 = 0
    · rw [strip_step h]
      rcases strip_end k (q / 10) with h1 | h1
      · exact .inl (by show (strip k (q / 10)).2 + 1 = k + 1; rw [h1])
      · exact .inr h1
    · rw [strip_stop h]
      exact .inr h
/-- What is not whole: the noughts of more digits may be taken off. -/
theorem fitU_strip {m : Int} {neg : Bool} {N j r L : Nat} {e : Int} (hN : 35 ≤ nd N) (hr : r < 10 ^ j) (h0 : r ≠ 0) : fitU m neg (strip L (N * 10 ^ j + r)).1 (e - j + (strip L (N * 10 ^ j + r)).2) false = fitU m neg N e true := by
  obtain ⟨h1, h2⟩ := strip_spec L (N * 10 ^ j + r)
  generalize (strip L (N * 10 ^ j + r)).1 = Q at *
  generalize (strip L (N * 10 ^ j + r)).2 = t at *
  have ht : t < j := by
    rcases Nat.lt_or_ge t j with h | h
    · exact h
    · exfalso
      obtain ⟨i, rfl⟩ : ∃ i, t = i + j := ⟨t - j, by omega⟩
      have h3 : (Q * 10 ^ (i + j)) % 10 ^ j = 0 := by rw [Nat.pow_add, ← Nat.mul_assoc, Nat.mul_mod_left]
      rw [h1, Nat.mul_comm, Nat.mul_add_mod, Nat.mod_eq_of_lt hr] at h3
      exact h0 h3
  obtain ⟨i, rfl⟩ : ∃ i, j = i + t := ⟨j - t, by omega⟩
  have hp : 0 < 10 ^ t := Nat.pow_pos (by decide)
  have hQ : Q = N * 10 ^ i + r / 10 ^ t := by
    have h4 : Q * 10 ^ t / 10 ^ t = (N * 10 ^ (i + t) + r) / 10 ^ t := by rw [h1]
    rw [Nat.mul_div_cancel _ hp, Nat.pow_add, ← Nat.mul_assoc, Nat.mul_comm _ (10 ^ t), Nat.mul_add_div hp] at h4
    exact h4
  have hr1 : r / 10 ^ t < 10 ^ i := Nat.div_lt_of_lt_mul (by rw [← Nat.pow_add, Nat.add_comm]; exact hr)
  have hr0 : r / 10 ^ t ≠ 0 := by
    intro h
    have h5 : r % 10 ^ t = 0 := by
      have h6 : (Q * 10 ^ t) % 10 ^ t = 0 := Nat.mul_mod_left _ _
      rw [h1, Nat.pow_add, ← Nat.mul_assoc, Nat.mul_comm _ (10 ^ t), Nat.mul_add_mod] at h6
      exact h6
    have := Nat.div_add_mod r (10 ^ t)
    rw [h, h5] at this
    simp at this
    exact h0 this.symm
  rw [hQ, show e - ((i + t : Nat) : Int) + (t : Int) = e - (i : Int) by omega]
  exact fitU_more hN hr1 (by simp [hr0])

/-- A number that may be one is fitted to itself. -/
theorem fitU_own {m : Int} {neg : Bool} {N : Nat} {e : Int} (hN : N < E34) (h1 : -6176 ≤ e) (h2 : e ≤ 6111) : fitU m neg N e false = (if N = 0 then false else neg, N, e, true) := by
  have hk : fitKU N e = 0 := by
    have := nd_le 34 N hN
    unfold fitKU
    omega
  have hd : fitD N (e + ((0 : Nat) : Int)) = 0 := by unfold fitD; omega
  unfold fitU
  have h' : ¬ E34 ≤ N := by omega
  rw [hk, cutQ_0]
  unfold fit2N fit2E
  rw [if_neg h', if_neg h']
  unfold fitE
  rw [hd]
  split
  · rename_i h0
    rw [h0, show max (-6176) (min (e + ((0 : Nat) : Int)) 6111) = e by omega]
  · rw [if_neg (by omega), show max (e + ((0 : Nat) : Int) - ((0 : Nat) : Int)) (-6176) = e by omega, Nat.pow_zero, Nat.mul_one]

theorem cutQ_E34 {m : Int} {neg : Bool} {N k : Nat} {more : Bool} (h : nd N ≤ k + 34) : cutQ m neg N more k ≤ E34 := cutQ_le (Nat.lt_of_lt_of_le (lt_nd N) (Nat.pow_le_pow_right (by decide) h))
theorem fit2_lt {m : Int} {neg : Bool} {n : Nat} (h : n ≤ E34) : fit2N m neg n < E34 := by
  unfold fit2N
  split
  · have := div10_lt h
    have e : n / 10 ^ (1 : Int).toNat = n / 10 ^ 1 := rfl
    have := cutQ_le1 (m := m) (neg := neg) (more := false) (N := n) (k := 1)
    omega
  · omega
theorem fitE_range {neg : Bool} {n : Nat} {e : Int} {g : Bool} {k : Nat} {x : Int} {ok : Bool} (h : n < E34) (ht : fitE neg n e = (g, k, x, ok)) : k < E34 ∧ -6176 ≤ x ∧ x ≤ 6111 ∧ (k = 0 → g = false) := by
  have hE : 0 < E34 := by decide
  unfold fitE at ht
  split at ht
  · obtain ⟨rfl, rfl, rfl, rfl⟩ : false = g ∧ 0 = k ∧ max (-6176) (min e 6111) = x ∧ true = ok := by simpa using ht
    exact ⟨hE, by omega, by omega, fun _ => rfl⟩
  · rename_i h0
    split at ht
    · obtain ⟨rfl, rfl, rfl, rfl⟩ : false = g ∧ 0 = k ∧ 0 = x ∧ false = ok := by simpa using ht
      exact ⟨hE, by omega, by omega, fun _ => rfl⟩
    · rename_i h1
      obtain ⟨rfl, rfl, rfl, rfl⟩ : neg = g ∧ n * 10 ^ fitD n e = k ∧ max (e - fitD n e) (-6176) = x ∧ true = ok := by simpa using ht
      have hn := nd_le 34 n h
      refine ⟨?_, by omega, by omega, fun h2 => ?_⟩
      · refine Nat.lt_of_lt_of_le (lt_nd _) (Nat.pow_le_pow_right (j := 34) (show 0 < 10 by decide) ?_)
        rw [nd_up10 (by omega)]
        unfold fitD
        omega
      · exfalso
        have hp : 0 < n * 10 ^ fitD n e := Nat.mul_pos (Nat.pos_of_ne_zero h0) (Nat.pow_pos (n := fitD n e) (show 0 < 10 by decide))
        omega
theorem fitT_range {m : Int} {neg : Bool} {N : Nat} {e : Int} {more : Bool} {g : Bool} {k : Nat} {x : Int} {ok : Bool} (ht : fitT m neg N e more = (g, k, x, ok)) : k < E34 ∧ -6176 ≤ x ∧ x ≤ 6111 ∧ (k = 0 → g = false) := by
  unfold fitT at ht
  refine fitE_range (fit2_lt ?_) ht
  rw [fit1N_cut]
  exact cutQ_le (fitK_lt N e)

end Go.Proofs.Ytdlfgliokkgceaa
