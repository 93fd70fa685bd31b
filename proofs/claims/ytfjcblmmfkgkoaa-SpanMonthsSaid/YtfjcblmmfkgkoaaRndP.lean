/-
  Plain laws of round: what is cut off, between which numbers it lies; quotients of whole numbers.
-/
import Derived.Test.YtfjcblmmfkgkoaaLawH
import Derived.Test.YtfjcblmmfkgkoaaFitC
namespace Go.Proofs.Ytfjcblmmfkgkoaa
open Go.RowKit
set_option linter.unusedVariables false
set_option linter.unusedSimpArgs false
set_option maxRecDepth 100000

/-- Beyond a number's digits it makes no difference how many are cut. -/
theorem cut_cap {m : Int} {s : Bool} {A k : Nat} (h : nd A < k) (j : Nat) : cutQ m s A false (k + j) = cutQ m s A false k := by
  have hA := lt_nd A
  have h1 : A / 10 ^ k = 0 := Nat.div_eq_of_lt (Nat.lt_of_lt_of_le hA (Nat.pow_le_pow_right (by decide) (by omega)))
  have h2 : lastD A k = 0 := by
    cases k with
    | zero => rfl
    | succ k =>
      show A / 10 ^ k % 10 = 0
      rw [Nat.div_eq_of_lt (Nat.lt_of_lt_of_le hA (Nat.pow_le_pow_right (by decide) (by omega)))]
  obtain ⟨e1, e2, e3⟩ := cut_stop (more := false) h1 h2 j
  exact cutQ_congr (by rw [e1, h1]) (by rw [e2, h2]) e3
theorem cut_cap90 {m : Int} {s : Bool} {A n : Nat} (h : A < E34) : cutQ m s A false (min n 90) = cutQ m s A false n := by
  have hA := nd_le 34 A h
  rcases Nat.le_total n 90 with k | k
  · rw [Nat.min_eq_left k]
  · rw [Nat.min_eq_right k]
    obtain ⟨j, rfl⟩ : ∃ j, n = 90 + j := ⟨n - 90, by omega⟩
    exact (cut_cap (by omega) j).symm
theorem cut_turn (s : Bool) (A k : Nat) : cutQ 7 s A false k = cutQ 6 (!s) A false k := by
  have h : upB 7 s A false k = upB 6 (!s) A false k := by
    rw [Bool.eq_iff_iff, up_ceil, up_floor]
    simp
  unfold cutQ
  rw [h]
theorem cut_floor (s : Bool) (A k : Nat) : sgnV s (cutQ 6 s A false k * 10 ^ k) ≤ sgnV s A ∧ sgnV s A < sgnV s (cutQ 6 s A false k * 10 ^ k) + ((10 ^ k : Nat) : Int) := by
  have hc : cutQ 6 s A false k = A / 10 ^ k + (upB 6 s A false k).toNat := rfl
  have hu := @up_floor s A k false
  have hp0 : 0 < 10 ^ k := Nat.pow_pos (by decide)
  rw [hc]
  generalize 10 ^ k = p at *
  have hd := Nat.div_add_mod A p
  have hm := Nat.mod_lt A hp0
  rw [Nat.add_mul, Nat.mul_comm (A / p) p]
  generalize p * (A / p) = D at *
  have one : ∀ u : Bool, u.toNat * p = if u = true then p else 0 := by intro u; cases u <;> simp
  rw [one]
  cases s with
  | false =>
    rw [if_neg (by rw [hu]; simp)]
    unfold sgnV
    simp
    omega
  | true =>
    by_cases hx : A % p = 0
    · rw [if_neg (by rw [hu]; simp [hx])]
      unfold sgnV
      simp
      omega
    · rw [if_pos (hu.2 ⟨rfl, .inl hx⟩)]
      unfold sgnV
      simp
      omega
theorem sgnV_turn (s : Bool) (n : Nat) : sgnV (!s) n = -sgnV s n := by
  unfold sgnV
  cases s <;> simp
theorem cut_ceil (s : Bool) (A k : Nat) : sgnV s A ≤ sgnV s (cutQ 7 s A false k * 10 ^ k) := by
  have h := (cut_floor (!s) A k).1
  rw [sgnV_turn, sgnV_turn, ← cut_turn] at h
  omega
theorem V_sgn (s : Bool) (Q : Nat) (x E : Int) : V (s && decide (Q ≠ 0)) Q x E = V s Q x E := by
  by_cases h : Q = 0
  · subst h
    rw [V_0, V_0]
  · have hd : decide (Q ≠ 0) = true := by simp [h]
    rw [hd, Bool.and_true]
theorem floor_cmp {s : Bool} {A k : Nat} {e x : Int} (hx : x = e + (k : Int)) : cmpZ (s && decide (cutQ 6 s A false k ≠ 0)) (cutQ 6 s A false k) x s A e ≤ 0 := by
  rw [cmpZ_any (E := e) (by omega) (Int.le_refl _), cmpI_le, V_sgn, V_own]
  unfold V
  rw [show (x - e).toNat = k by omega]
  exact (cut_floor s A k).1
theorem ceil_cmp {s : Bool} {A k : Nat} {e x : Int} (hx : x = e + (k : Int)) : cmpZ s A e (s && decide (cutQ 7 s A false k ≠ 0)) (cutQ 7 s A false k) x ≤ 0 := by
  rw [cmpZ_any (E := e) (Int.le_refl _) (by omega), cmpI_le, V_sgn, V_own]
  unfold V
  rw [show (x - e).toNat = k by omega]
  exact cut_ceil s A k
theorem up_same {s : Bool} {A k : Nat} {e x : Int} (hx : e = x + (k : Int)) : cmpZ s (A * 10 ^ k) x s A e = 0 ∧ cmpZ s A e s (A * 10 ^ k) x = 0 := by
  have h : cmpZ s (A * 10 ^ k) x s A e = 0 := by
    rw [cmpZ_any (E := x) (Int.le_refl _) (by omega), cmpI_eq, V_own]
    unfold V
    rw [show (e - x).toNat = k by omega]
  exact ⟨h, by rw [cmpZ_swap, h]; rfl⟩

/-- A number with so many places. -/
noncomputable def scaleT (m : Int) (s : Bool) (A : Nat) (e p : Int) : T4 :=
  if p < -6111 ∨ 6176 < p ∨ m < 1 ∨ 7 < m then (false, 0, 0, false)
  else if 0 ≤ -p - e then (s && decide (cutQ m s A false (-p - e).toNat ≠ 0), cutQ m s A false (-p - e).toNat, -p, true)
  else if A * 10 ^ (p + e).toNat < E34 then (s, A * 10 ^ (p + e).toNat, -p, true) else (false, 0, 0, false)
theorem cut_lt {m : Int} {s : Bool} {A n : Nat} (hA : A < E34) : cutQ m s A false n < E34 := by
  cases n with
  | zero => rw [cutQ_0]; exact hA
  | succ n =>
    have h1 := cutQ_le1 (m := m) (neg := s) (more := false) (N := A) (k := n + 1)
    have h2 : A / 10 ^ (n + 1) ≤ A / 10 := Nat.div_le_div_left (by rw [Nat.pow_succ]; have : 0 < 10 ^ n := Nat.pow_pos (by decide); omega) (by decide)
    unfold E34 at *
    omega
theorem scale_none {m : Int} {s : Bool} {A : Nat} {e p : Int} (h : p < -6111 ∨ 6176 < p ∨ m < 1 ∨ 7 < m) : scaleT m s A e p = (false, 0, 0, false) := by rw [scaleT, if_pos h]
theorem scale_cut {m : Int} {s : Bool} {A : Nat} {e p : Int} {Q : Nat} (h1 : ¬ (p < -6111 ∨ 6176 < p ∨ m < 1 ∨ 7 < m)) (h2 : 0 ≤ -p - e) (hQ : cutQ m s A false (-p - e).toNat = Q) : scaleT m s A e p = (s && decide (Q ≠ 0), Q, -p, true) := by
  rw [scaleT, if_neg h1, if_pos h2, hQ]
theorem scale_up {m : Int} {s : Bool} {A : Nat} {e p : Int} (h1 : ¬ (p < -6111 ∨ 6176 < p ∨ m < 1 ∨ 7 < m)) (h2 : ¬ 0 ≤ -p - e) (h3 : A * 10 ^ (p + e).toNat < E34) : scaleT m s A e p = (s, A * 10 ^ (p + e).toNat, -p, true) := by
  rw [scaleT, if_neg h1, if_neg h2, if_pos h3]
theorem scale_big {m : Int} {s : Bool} {A : Nat} {e p : Int} (h1 : ¬ (p < -6111 ∨ 6176 < p ∨ m < 1 ∨ 7 < m)) (h2 : ¬ 0 ≤ -p - e) (h3 : ¬ A * 10 ^ (p + e).toNat < E34) : scaleT m s A e p = (false, 0, 0, false) := by
  rw [scaleT, if_neg h1, if_neg h2, if_neg h3]
theorem and_dec {s : Bool} {A : Nat} (hs : A = 0 → s = false) : (s && decide (A ≠ 0)) = s := by
  by_cases h : A = 0
  · rw [hs h]
    rfl
  · simp [h]
theorem and_dec2 (s : Bool) (Q : Nat) : ((s && decide (Q ≠ 0)) && decide (Q ≠ 0)) = (s && decide (Q ≠ 0)) := by
  cases s <;> simp
/-- What has as many places stays. -/
theorem scale_own {m : Int} {s : Bool} {A : Nat} {p : Int} (hs : A = 0 → s = false) (h1 : ¬ (p < -6111 ∨ 6176 < p ∨ m < 1 ∨ 7 < m)) : scaleT m s A (-p) p = (s, A, -p, true) := by
  rw [scale_cut h1 (by omega) (show cutQ m s A false (-p - -p).toNat = A by rw [show (-p - -p).toNat = 0 by omega, cutQ_0]), and_dec hs]
theorem T4.inj4 {a a' : Bool} {b b' : Nat} {c c' : Int} {d d' : Bool} (h : ((a, b, c, d) : T4) = (a', b', c', d')) : a = a' ∧ b = b' ∧ c = c' ∧ d = d' := by
  simp only [Prod.mk.injEq] at h
  exact h
theorem scale_modes {m m' : Int} {s : Bool} {A : Nat} {e p : Int} {g1 g2 : Bool} {k1 k2 : Nat} {x1 x2 : Int} (hA : A < E34) (hs : A = 0 → s = false) (hm : 1 ≤ m) (hm' : m ≤ 7) (hn : 1 ≤ m') (hn' : m' ≤ 7)
    (h1 : scaleT 6 s A e p = (g1, k1, x1, true)) (h2 : scaleT 7 s A e p = (g2, k2, x2, true)) :
    ∃ g k x, scaleT m s A e p = (g, k, x, true) ∧ cmpZ g1 k1 x1 s A e ≤ 0 ∧ cmpZ s A e g2 k2 x2 ≤ 0 ∧ ((g = g1 ∧ k = k1 ∧ x = x1) ∨ (g = g2 ∧ k = k2 ∧ x = x2)) ∧ scaleT m' g k x p = (g, k, x, true) ∧ k < E34 ∧ (k = 0 → g = false) ∧ x = -p ∧ -6176 ≤ x ∧ x ≤ 6111 := by
  by_cases hp : p < -6111 ∨ 6176 < p
  · rw [scale_none (by omega)] at h1
    have := (T4.inj4 h1).2.2.2
    cases this
  · have hr : ∀ q : Int, 1 ≤ q → q ≤ 7 → ¬ (p < -6111 ∨ 6176 < p ∨ q < 1 ∨ 7 < q) := fun q h h' => by omega
    by_cases hc : 0 ≤ -p - e
    · obtain ⟨n, hn0⟩ : ∃ n, n = (-p - e).toNat := ⟨_, rfl⟩
      rw [scale_cut (hr 6 (by decide) (by decide)) hc (by rw [← hn0])] at h1
      rw [scale_cut (hr 7 (by decide) (by decide)) hc (by rw [← hn0])] at h2
      obtain ⟨a1, a2, a3, _⟩ := T4.inj4 h1
      obtain ⟨b1, b2, b3, _⟩ := T4.inj4 h2
      subst a1 a2 a3 b1 b2 b3
      refine ⟨_, _, _, scale_cut (hr m hm hm') hc (by rw [← hn0]), floor_cmp (by omega), ceil_cmp (by omega), ?_, ?_, cut_lt hA, fun h => by rw [h]; simp, rfl, by omega, by omega⟩
      · rcases (cut_modes m s A n false).1 with h | h
        · rw [h]; exact .inl ⟨rfl, rfl, rfl⟩
        · rw [h]; exact .inr ⟨rfl, rfl, rfl⟩
      · exact scale_own (fun h => by rw [h]; simp) (hr m' hn hn')
    · by_cases hb : A * 10 ^ (p + e).toNat < E34
      · rw [scale_up (hr 6 (by decide) (by decide)) hc hb] at h1
        rw [scale_up (hr 7 (by decide) (by decide)) hc hb] at h2
        obtain ⟨a1, a2, a3, _⟩ := T4.inj4 h1
        obtain ⟨b1, b2, b3, _⟩ := T4.inj4 h2
        subst a1 a2 a3 b1 b2 b3
        obtain ⟨c1, c2⟩ := up_same (s := s) (A := A) (k := (p + e).toNat) (e := e) (x := -p) (by omega)
        have hs0 : A * 10 ^ (p + e).toNat = 0 → s = false := fun h => by
          rcases Nat.mul_eq_zero.1 h with h | h
          · exact hs h
          · exact absurd h (Nat.pos_iff_ne_zero.1 (Nat.pow_pos (by decide)))
        exact ⟨_, _, _, scale_up (hr m hm hm') hc hb, by omega, by omega, .inl ⟨rfl, rfl, rfl⟩, scale_own hs0 (hr m' hn hn'), hb, hs0, rfl, by omega, by omega⟩
      · rw [scale_big (hr 6 (by decide) (by decide)) hc hb] at h1
        have := (T4.inj4 h1).2.2.2
        cases this

/-- A number without places. -/
noncomputable def wholeT (m : Int) (s : Bool) (A : Nat) (e : Int) : Bool × Nat × Int := if 0 ≤ e then (s, A, e) else (s && decide (cutQ m s A false (-e).toNat ≠ 0), cutQ m s A false (-e).toNat, 0)
theorem whole_scale {m : Int} {s : Bool} {A : Nat} {e : Int} (h1 : 1 ≤ m) (h2 : m ≤ 7) (he : ¬ 0 ≤ e) : scaleT m s A e 0 = ((wholeT m s A e).1, (wholeT m s A e).2.1, (wholeT m s A e).2.2, true) := by
  rw [scale_cut (by omega) (by omega) rfl, wholeT, if_neg he, show -0 - e = -e by omega]
  rfl
theorem whole_range {m : Int} {s : Bool} {A : Nat} {e : Int} (hA : A < E34) (hs : A = 0 → s = false) (h2 : e ≤ 6111) : (wholeT m s A e).2.1 < E34 ∧ 0 ≤ (wholeT m s A e).2.2 ∧ (wholeT m s A e).2.2 ≤ 6111 ∧ ((wholeT m s A e).2.1 = 0 → (wholeT m s A e).1 = false) := by
  unfold wholeT
  split
  · exact ⟨hA, by assumption, h2, hs⟩
  · refine ⟨cut_lt hA, Int.le_refl 0, show (0 : Int) ≤ 6111 by decide, fun h => ?_⟩
    have h' : cutQ m s A false (-e).toNat = 0 := h
    show (s && decide (cutQ m s A false (-e).toNat ≠ 0)) = false
    rw [h']
    simp
theorem whole_own {m : Int} {s : Bool} {A : Nat} {e : Int} (h : 0 ≤ e) : wholeT m s A e = (s, A, e) := if_pos h
theorem whole_low {m : Int} {s : Bool} {A : Nat} {e : Int} {Q : Nat} (h : e < 0) (hQ : cutQ m s A false (-e).toNat = Q) : wholeT m s A e = (s && decide (Q ≠ 0), Q, 0) := by
  rw [wholeT, if_neg (by omega), hQ]
theorem sgnV_sgn (s : Bool) (Q : Nat) : sgnV (s && decide (Q ≠ 0)) Q = sgnV s Q := by
  by_cases h : Q = 0
  · subst h
    rw [sgnV_0, sgnV_0]
  · simp [h]

/-- Sums of whole numbers. -/
theorem add_int {s t : Bool} {A B : Nat} (h : A + B < E34) : ∃ g k, addT s A 0 t B 0 = (g, k, 0, true) ∧ sgnV g k = sgnV s A + sgnV t B ∧ k < E34 ∧ (k = 0 → g = false) := by
  obtain ⟨v1, v2⟩ := sum_val s A 0 t B 0
  have e0 : min (0 : Int) 0 = 0 := rfl
  rw [e0] at v1 v2
  rw [V_own, V_own] at v2
  unfold addT
  rw [v1]
  obtain ⟨g, N, hg, hN⟩ : ∃ g N, (sumT s A 0 t B 0).1 = g ∧ (sumT s A 0 t B 0).2.1 = N := ⟨_, _, rfl, rfl⟩
  rw [hg, hN] at v2 ⊢
  have hNE : N < E34 := by
    refine Nat.lt_of_le_of_lt ?_ h
    unfold sgnV at v2
    split at v2 <;> split at v2 <;> split at v2 <;> omega
  rw [fitU_own hNE (by decide) (by decide)]
  refine ⟨_, N, rfl, ?_, hNE, fun h => if_pos h⟩
  rw [← v2]
  split
  · rename_i h0
    rw [h0, sgnV_0, sgnV_0]
  · rfl

theorem one_cut {k y N : Nat} (hy : 1 ≤ y) (h : N = k * 10 ^ (y + 1) + 1) : lastD N (y + 1) = 0 ∧ N / 10 ^ (y + 1) = k := by
  have p1 : 1 < 10 ^ y := Nat.one_lt_pow (by omega) (by decide)
  have p2 : 1 < 10 ^ (y + 1) := Nat.one_lt_pow (by omega) (by decide)
  constructor
  · show N / 10 ^ y % 10 = 0
    have e1 : N = 10 ^ y * (k * 10) + 1 := by rw [h, Nat.pow_succ, Nat.mul_comm (10 ^ y) 10, ← Nat.mul_assoc, Nat.mul_comm (k * 10)]
    rw [e1, Nat.mul_add_div (by omega), Nat.div_eq_of_lt p1, Nat.add_zero, Nat.mul_mod_left]
  · rw [h, Nat.mul_comm, Nat.mul_add_div (by omega), Nat.div_eq_of_lt p2, Nat.add_zero]
/-- One more than what has no places: there is such a number. -/
theorem one_ok {g : Bool} {k : Nat} {x : Int} (hk : k < E34) (h0 : 0 ≤ x) (h1 : x ≤ 6111) : ∃ g' k' x', addT g k x false 1 0 = (g', k', x', true) := by
  obtain ⟨v1, v2⟩ := sum_val g k x false 1 0
  have e0 : min x (0 : Int) = 0 := by omega
  rw [e0] at v1 v2
  rw [V_own] at v2
  unfold V at v2
  unfold addT
  rw [v1]
  obtain ⟨s, N, hg, hN⟩ : ∃ s N, (sumT g k x false 1 0).1 = s ∧ (sumT g k x false 1 0).2.1 = N := ⟨_, _, rfl, rfl⟩
  rw [hg, hN] at v2 ⊢
  rw [show x - 0 = x by omega] at v2
  have hN1 : N = k * 10 ^ x.toNat + 1 ∨ N + 1 = k * 10 ^ x.toNat := by
    generalize k * 10 ^ x.toNat = X at *
    unfold sgnV at v2
    simp at v2
    split at v2 <;> split at v2 <;> omega
  have hX : k * 10 ^ x.toNat < 10 ^ (34 + x.toNat) := by
    rw [Nat.pow_add]
    exact Nat.mul_lt_mul_of_pos_right (Nat.lt_of_lt_of_le hk (by decide)) (Nat.pow_pos (by decide))
  have hnd : nd N ≤ 35 + x.toNat := by
    refine nd_le _ _ ?_
    have : 10 ^ (35 + x.toNat) = 10 * 10 ^ (34 + x.toNat) := by rw [show 35 + x.toNat = (34 + x.toNat) + 1 by omega, Nat.pow_succ, Nat.mul_comm]
    omega
  have hK : fitKU N 0 = nd N - 34 := by unfold fitKU; omega
  have fin : ∀ c : Nat, ∀ e : Int, -6176 ≤ fit2E c e → fit2E c e ≤ 6111 → ∃ g' k' x', fitE s (fit2N 1 s c) (fit2E c e) = (g', k', x', true) := fun c e q1 q2 => by
    have hd : fitD (fit2N 1 s c) (fit2E c e) = 0 := by unfold fitD; omega
    unfold fitE
    rw [hd]
    split
    · exact ⟨_, _, _, rfl⟩
    · rw [if_neg (by omega)]
      exact ⟨_, _, _, rfl⟩
  unfold fitU
  rw [hK]
  by_cases hs : nd N - 34 ≤ 6110
  · refine fin _ _ ?_ ?_ <;> (unfold fit2E; split <;> omega)
  · have hx : x.toNat ≥ 6110 := by omega
    have hlt : ∀ q, nd N - 34 = q → q = 6111 ∨ q = 6112 := fun q h => by omega
    -- N stands below 10 to the 34 + x
    have hx' : nd N ≤ 34 + x.toNat := by
      refine nd_le _ _ ?_
      rcases hN1 with h | h
      · have hk' : k + 1 ≤ 10 ^ 34 := Nat.lt_of_lt_of_le hk (by decide)
        have h2 := Nat.mul_le_mul_right (10 ^ x.toNat) hk'
        rw [← Nat.pow_add, Nat.add_mul, Nat.one_mul] at h2
        have h3 : 1 < 10 ^ x.toNat := Nat.one_lt_pow (by omega) (by decide)
        omega
      · omega
    have hq : nd N - 34 = 6111 ∧ x.toNat = 6111 := by omega
    obtain ⟨y, hy, hy1⟩ : ∃ y : Nat, 6111 = y + 1 ∧ 1 ≤ y := ⟨6110, rfl, by decide⟩
    rw [hq.1]
    rw [hq.2] at hN1
    clear hX hnd hx' hq hs hlt hK
    have hyI : ((0 : Int) + ((6111 : Nat) : Int)) = 6111 := by decide
    rw [hyI]
    rw [hy] at hN1 ⊢
    have hc : cutQ 1 s N false (y + 1) < E34 := by
      rcases hN1 with h | h
      · obtain ⟨hl, hN2⟩ := one_cut hy1 h
        have hu : upB 1 s N false (y + 1) = false := by
          rw [← Bool.not_eq_true, upB_iff, hl]
          unfold UpP
          simp
        unfold cutQ
        rw [hu, hN2]
        exact hk
      · have h1 := cutQ_le1 (m := 1) (neg := s) (more := false) (N := N) (k := y + 1)
        have h2 : N / 10 ^ (y + 1) < k := Nat.div_lt_of_lt_mul (by rw [Nat.mul_comm]; omega)
        omega
    refine fin _ _ ?_ ?_ <;> (unfold fit2E; rw [if_neg (by omega)]; decide)

theorem fitE_mid {s : Bool} {n : Nat} {e : Int} (h0 : n ≠ 0) (h1 : -6176 ≤ e) (h2 : e ≤ 6111) : fitE s n e = (s, n, e, true) := by
  have hd : fitD n e = 0 := by unfold fitD; omega
  unfold fitE
  rw [if_neg h0, hd, if_neg (by omega), Nat.pow_zero, Nat.mul_one, show max (e - ((0 : Nat) : Int)) (-6176) = e by omega]
theorem sgnV_inj {s : Bool} {a b : Nat} (h : sgnV s a = sgnV s b) : a = b := by
  unfold sgnV at h
  split at h <;> omega

/-- What Div reckons of small numbers, held against the whole quotient of so many digits more. -/
theorem quot_near {a b : Nat} {s : Bool} (ha : a < 10000000000) (hb : b < 10000000000) (ha0 : a ≠ 0) (hb0 : b ≠ 0) :
    ∃ k x, divT s a b 0 = (s, k, x, true) ∧ k < E34 ∧ -6176 ≤ x ∧ x ≤ 6111 ∧ -(divN a b : Int) ≤ x ∧ k * 10 ^ (x + divN a b).toNat ≤ a * 10 ^ divN a b / b + 100 ∧ a * 10 ^ divN a b / b ≤ k * 10 ^ (x + divN a b).toNat + 100 := by
  have haE : a < E34 := Nat.lt_trans ha (by decide)
  have hbE : b < E34 := Nat.lt_trans hb (by decide)
  obtain ⟨h1, h2, h3, h4⟩ := div_nd35 haE hbE ha0 hb0
  obtain ⟨q, hq⟩ : ∃ q, q = a * 10 ^ divN a b / b := ⟨_, rfl⟩
  obtain ⟨n, hn⟩ : ∃ n, n = divN a b := ⟨_, rfl⟩
  have hq0 : q ≠ 0 := fun h => by rw [← hq, h, nd_zero] at h1; omega
  obtain ⟨N, j, more, p1, p2, p3, p4⟩ : ∃ N j more, N * 10 ^ j = q ∧ j ≤ n ∧ divT s a b 0 = fitU 1 s N (-(n : Int) + (j : Int)) more ∧ (nd N ≤ 34 → more = false) := by
    unfold divT
    rw [if_neg ha0, ← hn]
    by_cases hr : a * 10 ^ n % b = 0
    · obtain ⟨t1, t2⟩ := strip_spec n q
      refine ⟨(strip n q).1, (strip n q).2, false, t1, t2, ?_, fun _ => rfl⟩
      have hd : divQ a b = strip n q := by unfold divQ; rw [← hn, if_pos hr, hq, hn]
      have hm : divMore a b = false := by unfold divMore; rw [← hn, hr]; rfl
      rw [hd, hm, fitT_U _ _ _ _ (by have := strip_nd n q; rw [← hq] at h2; omega), show (0 : Int) - (n : Int) = -(n : Int) by omega]
    · refine ⟨q, 0, true, by rw [Nat.pow_zero, Nat.mul_one], Nat.zero_le _, ?_, fun h => by rw [← hq] at h1; omega⟩
      have hd : divQ a b = (q, 0) := by unfold divQ; rw [← hn, if_neg hr, hq, hn]
      have hm : divMore a b = true := by unfold divMore; rw [← hn]; simp [hr]
      rw [hd, hm, fitT_U _ _ _ _ (by rw [← hq] at h2; show nd q ≤ 78; omega), show (0 : Int) - (n : Int) = -(n : Int) by omega]
  have hN0 : N ≠ 0 := fun h => hq0 (by rw [← p1, h, Nat.zero_mul])
  have hndq : nd q = nd N + j := by
    have := nd_more (j := j) (r := 0) hN0 (Nat.pow_pos (by decide))
    rw [Nat.add_zero, p1] at this
    exact this
  rw [← hq, hndq] at h2
  have hK : fitKU N (-(n : Int) + (j : Int)) = nd N - 34 := by unfold fitKU; omega
  obtain ⟨K, hK'⟩ : ∃ K, K = nd N - 34 := ⟨_, rfl⟩
  obtain ⟨C, hC⟩ : ∃ C, C = cutQ 1 s N more K := ⟨_, rfl⟩
  have hCE : C ≤ E34 := by rw [hC]; exact cutQ_E34 (by omega)
  -- what is cut is near
  have near : C * 10 ^ (j + K) ≤ q + 100 ∧ q ≤ C * 10 ^ (j + K) + 100 := by
    by_cases hk : K = 0
    · have hC' : C = N := by rw [hC, hk, p4 (by omega), cutQ_0]
      rw [hC', hk, Nat.add_zero, p1]
      omega
    · have hp : 10 ^ (j + K) ≤ 100 := Nat.le_trans (Nat.pow_le_pow_right (by decide) (show j + K ≤ 2 by omega)) (by decide)
      have hd := Nat.div_add_mod N (10 ^ K)
      have hm := Nat.mod_lt N (show 0 < 10 ^ K from Nat.pow_pos (by decide))
      have e1 : N / 10 ^ K * 10 ^ K ≤ N := by rw [Nat.mul_comm]; omega
      have e2 : N ≤ (N / 10 ^ K + 1) * 10 ^ K := by rw [Nat.add_mul, Nat.one_mul, Nat.mul_comm]; omega
      have f1 := Nat.mul_le_mul_right (10 ^ j) e1
      have f2 := Nat.mul_le_mul_right (10 ^ j) e2
      rw [Nat.mul_assoc, ← Nat.pow_add, Nat.add_comm K j] at f1 f2
      rw [p1] at f1 f2
      rw [Nat.add_mul, Nat.one_mul] at f2
      have hc : C = N / 10 ^ K ∨ C = N / 10 ^ K + 1 := by
        rcases cut_two 1 s N K more with h | ⟨h, _⟩
        · exact .inl (hC.trans h)
        · exact .inr (hC.trans h)
      rcases hc with h | h
      · rw [h]; omega
      · rw [h, Nat.add_mul, Nat.one_mul]; omega
  have hC0 : C ≠ 0 := fun h => by
    have h35 : 35 ≤ nd q := by rw [hq]; exact h1
    have : 10 ^ 34 ≤ q := Nat.le_trans (Nat.pow_le_pow_right (by decide) (by omega)) (ge_nd hq0)
    rw [h, Nat.zero_mul] at near
    have e34 : (10 : Nat) ^ 34 = 10000000000000000000000000000000000 := by decide
    omega
  obtain ⟨w1, w2, w3⟩ := fit2_val (m := 1) (s := s) (c := C) (e := -(n : Int) + (j : Int) + (K : Int)) (E := -(n : Int)) hCE (by omega)
  obtain ⟨e2, he2⟩ : ∃ e2, e2 = fit2E C (-(n : Int) + (j : Int) + (K : Int)) := ⟨_, rfl⟩
  have he3 : e2 ≤ -(n : Int) + (j : Int) + (K : Int) + 1 := by rw [he2]; unfold fit2E; split <;> omega
  rw [← he2] at w1 w2
  refine ⟨fit2N 1 s C, e2, ?_, fit2_lt hCE, by omega, by omega, by omega, ?_, ?_⟩
  · rw [p3]
    unfold fitU
    rw [hK, ← hK', ← hC, ← he2]
    exact fitE_mid (fun h => hC0 (w3.1 h)) (by omega) (by omega)
  all_goals
    unfold V at w1
    have e5 := sgnV_inj w1
    rw [show (e2 - -(n : Int)).toNat = (e2 + (n : Int)).toNat by omega, show (-(n : Int) + (j : Int) + (K : Int) - -(n : Int)).toNat = j + K by omega] at e5
    rw [← hq, ← hn, e5]
    omega

/-- The quotient of two whole numbers: its whole part, and whether anything is left. -/
theorem quot_int {a b : Nat} {s : Bool} {g : Bool} {k : Nat} {x : Int} {ok : Bool} (ha : a < 10000000000) (hb : b < 10000000000) (hs : a = 0 → s = false) (hb0 : b ≠ 0) (h : qDivT s a b 0 = (g, k, x, ok)) :
    ok = true ∧ g = s ∧ x ≤ 0 ∧ -6176 ≤ x ∧ k < E34 ∧ k / 10 ^ (-x).toNat = a / b ∧ (k % 10 ^ (-x).toNat = 0 ↔ a % b = 0) := by
  by_cases ha0 : a = 0
  · subst ha0
    rw [qdiv_zero hb0 (by decide) (by decide)] at h
    obtain ⟨r1, r2, r3, r4⟩ := T4.inj4 h
    subst r1 r2 r3 r4
    exact ⟨rfl, (hs rfl).symm, by decide, by decide, by decide, by simp, by simp⟩
  by_cases hu : a % b = 0
  · have hab : a = a / b * b := by have := Nat.div_add_mod a b; rw [hu, Nat.mul_comm] at this; omega
    have hq10 : a / b < E34 := Nat.lt_of_le_of_lt (Nat.div_le_self _ _) (Nat.lt_trans ha (by decide))
    rw [qdiv_exact (j := 0) (c := a / b) ha0 hb0 (by rw [Nat.pow_zero, Nat.mul_one]; exact hab) (Nat.zero_le _) (.inl rfl) hq10 (by decide) (by decide)] at h
    obtain ⟨r1, r2, r3, r4⟩ := T4.inj4 h
    subst r1 r2 r3 r4
    exact ⟨rfl, rfl, by decide, by decide, hq10, by simp, by simp [hu, Nat.mod_one]⟩
  · unfold qDivT at h
    rw [if_neg hb0] at h
    obtain ⟨k', x', e1, e2, e3, e4, e5, e6, e7⟩ := quot_near (s := s) ha hb ha0 hb0
    rw [e1] at h
    obtain ⟨r1, r2, r3, r4⟩ := T4.inj4 h
    subst r1 r2 r3 r4
    have hn : 25 ≤ divN a b := by
      have h1 := nd_le 10 a (by simpa using ha)
      unfold divN
      omega
    obtain ⟨n, hn'⟩ : ∃ n, n = divN a b := ⟨_, rfl⟩
    rw [← hn'] at e5 e6 e7 hn
    obtain ⟨P, hP⟩ : ∃ P, P = 10 ^ n := ⟨_, rfl⟩
    have hP1 : 10 ^ 25 ≤ P := by rw [hP]; exact Nat.pow_le_pow_right (by decide) hn
    have hP2 : 10000000000000000000000000 ≤ P := Nat.le_trans (by decide) hP1
    rw [← hP] at e6 e7
    obtain ⟨M, hM⟩ : ∃ M, M = k' * 10 ^ (x' + n).toNat := ⟨_, rfl⟩
    rw [← hM] at e6 e7
    have d1 := Nat.div_add_mod (a * P) b
    have d2 := Nat.mod_lt (a * P) (Nat.pos_of_ne_zero hb0)
    have d3 := Nat.div_add_mod a b
    have d4 := Nat.mod_lt a (Nat.pos_of_ne_zero hb0)
    generalize a * P / b = q at *
    generalize a * P % b = r at *
    obtain ⟨t, ht⟩ : ∃ t, t = a / b := ⟨_, rfl⟩
    obtain ⟨u, hu'⟩ : ∃ u, u = a % b := ⟨_, rfl⟩
    rw [← hu'] at d3 d4 hu
    rw [← ht] at d3
    rw [← ht, ← hu']
    -- b * q + r = b * t * P + u * P
    have key : b * q + r = b * (t * P) + u * P := by
      rw [d1, ← d3, Nat.add_mul, Nat.mul_assoc]
    have u1 : P ≤ u * P := Nat.le_mul_of_pos_left _ (by omega)
    have u2 : u * P + P ≤ b * P := by
      have := Nat.mul_le_mul_right P (show u + 1 ≤ b by omega)
      rwa [Nat.add_mul, Nat.one_mul] at this
    have lo : t * P < M := by
      refine Nat.lt_of_mul_lt_mul_left (a := b) ?_
      have := Nat.mul_le_mul_left b e7
      rw [Nat.mul_add] at this
      omega
    have hi : M < (t + 1) * P := by
      refine Nat.lt_of_mul_lt_mul_left (a := b) ?_
      have := Nat.mul_le_mul_left b e6
      rw [Nat.mul_add] at this
      rw [Nat.add_mul, Nat.one_mul, Nat.mul_add]
      omega
    have hx0 : x' ≤ 0 := by
      rcases Int.lt_or_le 0 x' with h | h
      · exfalso
        have e : (x' + n).toNat = n + x'.toNat := by omega
        rw [e, Nat.pow_add, ← hP, ← Nat.mul_assoc, Nat.mul_right_comm] at hM
        have f1 : t < k' * 10 ^ x'.toNat := by
          refine Nat.lt_of_mul_lt_mul_right (a := P) ?_
          rw [← hM]; exact lo
        have f2 : k' * 10 ^ x'.toNat < t + 1 := by
          refine Nat.lt_of_mul_lt_mul_right (a := P) ?_
          rw [← hM]; exact hi
        omega
      · exact h
    have hPs : P = 10 ^ (-x').toNat * 10 ^ (x' + n).toNat := by
      rw [hP, ← Nat.pow_add]
      congr 1
      omega
    have hpp : 0 < 10 ^ (x' + n).toNat := Nat.pow_pos (by decide)
    have hMd : M / P = t := by
      refine Nat.div_eq_of_lt_le (by omega) ?_
      exact hi
    have hMm : M % P ≠ 0 := fun h => by
      have := Nat.div_add_mod M P
      rw [h, hMd, Nat.mul_comm] at this
      omega
    have g1 : k' / 10 ^ (-x').toNat = t := by
      rw [← hMd, hM, hPs, Nat.mul_div_mul_right _ _ hpp]
    have g2 : k' % 10 ^ (-x').toNat ≠ 0 := fun h => hMm (by rw [hM, hPs, Nat.mul_mod_mul_right, h, Nat.zero_mul])
    exact ⟨rfl, rfl, hx0, e3, e2, g1, ⟨fun h => absurd h g2, fun h => absurd h hu⟩⟩

/-- Its floor. -/
theorem quot_floor {a b : Nat} {s : Bool} {g : Bool} {k : Nat} {x : Int} {ok : Bool} (ha : a < 10000000000) (hb : b < 10000000000) (hs : a = 0 → s = false) (hb0 : b ≠ 0) (h : qDivT s a b 0 = (g, k, x, ok)) :
    ∃ g' k', wholeT 6 g k x = (g', k', 0) ∧ k' ≤ 10000000000 ∧ sgnV g' k' = Int.fdiv (sgnV s a) (b : Int) ∧ (k' = 0 → g' = false) := by
  obtain ⟨r1, r2, r3, r4, r5, r6, r7⟩ := quot_int ha hb hs hb0 h
  subst r2
  have hc : cutQ 6 g k false (-x).toNat = a / b + (if g = true ∧ a % b ≠ 0 then 1 else 0) := by
    have e : cutQ 6 g k false (-x).toNat = k / 10 ^ (-x).toNat + (upB 6 g k false (-x).toNat).toNat := rfl
    rw [e, r6]
    congr 1
    have hu := @up_floor g k (-x).toNat false
    by_cases hx : g = true ∧ a % b ≠ 0
    · rw [if_pos hx, hu.2 ⟨hx.1, .inl fun q => hx.2 (r7.1 q)⟩]
      rfl
    · have : upB 6 g k false (-x).toNat = false := by
        rw [← Bool.not_eq_true, hu]
        rintro ⟨q1, q2⟩
        refine hx ⟨q1, fun q => ?_⟩
        rcases q2 with q2 | q2
        · exact q2 (r7.2 q)
        · cases q2
      rw [if_neg hx, this]
      rfl
  have hle : a / b ≤ a := Nat.div_le_self _ _
  have hfd : sgnV g (a / b + (if g = true ∧ a % b ≠ 0 then 1 else 0)) = Int.fdiv (sgnV g a) (b : Int) := by
    have hbp : (0 : Int) < b := by omega
    rw [Int.fdiv_eq_ediv_of_nonneg _ (by omega)]
    have hd := Nat.div_add_mod a b
    have hm := Nat.mod_lt a (Nat.pos_of_ne_zero hb0)
    generalize a / b = t at *
    generalize a % b = u at *
    symm
    have hdi : (a : Int) = (b : Int) * (t : Int) + (u : Int) := by rw [← hd]; simp
    cases g with
    | false =>
      unfold sgnV
      simp
      rw [hdi]
      refine (Int.ediv_emod_unique hbp).2 ⟨Int.add_comm _ _, by omega, by omega⟩ |>.1
    | true =>
      unfold sgnV
      by_cases hu0 : u = 0
      · simp [hu0]
        rw [hdi, hu0]
        refine ((Int.ediv_emod_unique (r := 0) hbp).2 ⟨?_, by omega, by omega⟩).1
        rw [Int.mul_neg]
        simp
      · simp [hu0]
        rw [hdi]
        refine ((Int.ediv_emod_unique (r := (b : Int) - (u : Int)) hbp).2 ⟨?_, by omega, by omega⟩).1
        rw [Int.mul_neg, Int.mul_add, Int.mul_one]
        omega
  by_cases hx : x = 0
  · subst hx
    have hk : k = a / b + (if g = true ∧ a % b ≠ 0 then 1 else 0) := by rw [← hc]; exact (cutQ_0 6 g k).symm
    refine ⟨g, k, whole_own (by decide), ?_, by rw [hk]; exact hfd, ?_⟩
    · rw [hk]; split <;> omega
    · intro h0
      obtain ⟨q1, q2, q3, q4⟩ : k < E34 ∧ (-6176 : Int) ≤ 0 ∧ (0 : Int) ≤ 6111 ∧ (k = 0 → g = false) := by
        unfold qDivT at h
        rw [if_neg hb0] at h
        unfold divT at h
        split at h
        · exact fitT_range h
        · exact fitT_range h
      exact q4 h0
  · refine ⟨_, _, whole_low (by omega) hc, ?_, by rw [sgnV_sgn]; exact hfd, fun h => by rw [h]; simp⟩
    split <;> omega
/-- Its whole part. -/
theorem quot_down {a b : Nat} {s : Bool} {g : Bool} {k : Nat} {x : Int} {ok : Bool} (ha : a < 10000000000) (hb : b < 10000000000) (hs : a = 0 → s = false) (hb0 : b ≠ 0) (h : qDivT s a b 0 = (g, k, x, ok)) :
    ∃ g', wholeT 5 g k x = (g', a / b, 0) ∧ sgnV g' (a / b) = sgnV s (a / b) := by
  obtain ⟨r1, r2, r3, r4, r5, r6, r7⟩ := quot_int ha hb hs hb0 h
  subst r2
  have hc : cutQ 5 g k false (-x).toNat = a / b := by
    have e : cutQ 5 g k false (-x).toNat = k / 10 ^ (-x).toNat + (upB 5 g k false (-x).toNat).toNat := rfl
    have hu : upB 5 g k false (-x).toNat = false := by
      rw [← Bool.not_eq_true, upB_iff]
      unfold UpP
      simp
    rw [e, r6, hu]
    rfl
  by_cases hx : x = 0
  · subst hx
    have hk : k = a / b := by rw [← hc]; exact (cutQ_0 5 g k).symm
    exact ⟨g, by rw [← hk]; exact whole_own (by decide), rfl⟩
  · exact ⟨_, whole_low (by omega) hc, sgnV_sgn _ _⟩

end Go.Proofs.Ytfjcblmmfkgkoaa
