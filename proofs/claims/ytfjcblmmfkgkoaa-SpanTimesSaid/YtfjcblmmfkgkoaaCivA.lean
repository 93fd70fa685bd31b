/-
  civil: leap years, the lengths of months, days and their numbers.
-/
import Derived.Test.YtfjcblmmfkgkoaaVcX
import Derived.Test.YtfjcblmmfkgkoaaVcG
namespace Go.Proofs.Ytfjcblmmfkgkoaa
open Go.RowKit
set_option linter.unusedVariables false
set_option linter.unusedSimpArgs false
set_option maxRecDepth 100000

theorem td_abs (a : Int) {b : Int} (hb : 0 < b) : -(a.natAbs : Int) ≤ a.tdiv b ∧ a.tdiv b ≤ a.natAbs := by
  rcases Int.le_total 0 a with h | h
  · rw [Int.tdiv_eq_ediv_of_nonneg h]
    have h1 := Int.ediv_nonneg h (Int.le_of_lt hb)
    have h2 := Int.ediv_le_self b h
    omega
  · obtain ⟨c, rfl⟩ : ∃ c, a = -c := ⟨-a, by omega⟩
    have hc : 0 ≤ c := by omega
    rw [Int.neg_tdiv, Int.tdiv_eq_ediv_of_nonneg hc]
    have h1 := Int.ediv_nonneg hc (Int.le_of_lt hb)
    have h2 := Int.ediv_le_self b hc
    omega
/-- What is divided, and what is left: towards 0. -/
theorem quo_is {a n z : Int} (h : IntIs .i64 (a.tdiv n) z) (hn : 0 < n) (h0 : -9223372036854775807 ≤ a) (h1 : a ≤ 9223372036854775807) : z = a.tdiv n := h.i64 (by
  have := td_abs a hn
  omega)
theorem quo_pos {a n z : Int} (h : IntIs .i64 (a.tdiv n) z) (hn : 0 < n) (h0 : 0 ≤ a) (h1 : a ≤ 9223372036854775807) : z = a / n := by
  rw [quo_is h hn (by omega) h1, Int.tdiv_eq_ediv_of_nonneg h0]
theorem td_spec (a : Int) {n : Int} (hn : 0 < n) : n * a.tdiv n + a.tmod n = a ∧ -n < a.tmod n ∧ a.tmod n < n ∧ (0 ≤ a → 0 ≤ a.tdiv n ∧ 0 ≤ a.tmod n) ∧ (a ≤ 0 → a.tdiv n ≤ 0 ∧ a.tmod n ≤ 0) := by
  have e : n * a.tdiv n + a.tmod n = a := Int.mul_tdiv_add_tmod a n
  refine ⟨e, Int.lt_tmod_of_pos a hn, Int.tmod_lt_of_pos a hn, fun h => ?_, fun h => ?_⟩
  · exact ⟨Int.tdiv_nonneg h (Int.le_of_lt hn), Int.tmod_nonneg n h⟩
  · obtain ⟨c, rfl⟩ : ∃ c, a = -c := ⟨-a, by omega⟩
    have h1 := Int.tdiv_nonneg (a := c) (by omega) (Int.le_of_lt hn)
    have h2 := Int.tmod_nonneg n (a := c) (by omega)
    rw [Int.neg_tdiv, Int.neg_tmod]
    omega
theorem quo_is2 {a n z : Int} (h : IntIs .i64 (a.tdiv n) z) (hn : 2 ≤ n) (h0 : -9223372036854775808 ≤ a) (h1 : a ≤ 9223372036854775807) : z = a.tdiv n := h.i64 (by
  have h2 := td_abs a (show 0 < n by omega)
  obtain ⟨k1, k2, k3, k4, k5⟩ := td_spec a (show 0 < n by omega)
  rcases Int.le_total 0 a with k | k
  · omega
  · have k6 := k5 k
    have k7 := Int.mul_le_mul_of_nonpos_right hn k6.1
    omega)
theorem fl_up {a b q r : Int} (hb : 0 < b) (hq : q = a.tdiv b) (hr : r = a.tmod b) : (r < 0 → a / b = q - 1) ∧ (¬ r < 0 → a / b = q) := by
  obtain ⟨h1, h2, h3, _⟩ := td_spec a hb
  rw [← hq, ← hr] at h1
  rw [← hr] at h2 h3
  constructor
  · intro h
    refine ((Int.ediv_emod_unique (r := r + b) hb).2 ⟨?_, by omega, by omega⟩).1
    rw [Int.mul_sub, Int.mul_one]
    omega
  · intro h
    exact ((Int.ediv_emod_unique (r := r) hb).2 ⟨by omega, by omega, by omega⟩).1
theorem tm0 {p z n : Int} (h : z = p.tmod n) (hn : 0 < n) : z = 0 ↔ p % n = 0 := by
  have h3 : n ∣ p ↔ p % n = 0 := Int.dvd_iff_emod_eq_zero
  have h1 := Int.emod_nonneg p (show n ≠ 0 by omega)
  have h2 := Int.emod_lt_of_pos p hn
  rw [h, Int.tmod_eq_emod]
  generalize p % n = e at *
  simp only [h3]
  split <;> omega

def leapP (y : Int) : Prop := y % 4 = 0 ∧ (y % 100 ≠ 0 ∨ y % 400 = 0)
instance (y : Int) : Decidable (leapP y) := inferInstanceAs (Decidable (_ ∧ _))
def lenI (y m : Int) : Int := if m = 1 ∨ m = 3 ∨ m = 5 ∨ m = 7 ∨ m = 8 ∨ m = 10 ∨ m = 12 then 31 else if m = 4 ∨ m = 6 ∨ m = 9 ∨ m = 11 then 30 else if m = 2 then (if leapP y then 29 else 28) else 0
theorem lenI_le (y m : Int) : 0 ≤ lenI y m ∧ lenI y m ≤ 31 := by
  unfold lenI
  split
  · decide
  · split
    · decide
    · split
      · split <;> decide
      · decide
theorem lenI_ge (y : Int) {m : Int} (h1 : 1 ≤ m) (h2 : m ≤ 12) : 28 ≤ lenI y m := by
  unfold lenI
  split
  · decide
  · split
    · decide
    · split
      · split <;> decide
      · omega
theorem lenI_pos {y m : Int} (h : 1 ≤ lenI y m) : 1 ≤ m ∧ m ≤ 12 := by
  unfold lenI at h
  split at h
  · omega
  · split at h
    · omega
    · split at h
      · omega
      · omega

theorem c_Leap {y : Int} : HasC Try.prog 109 [.v (.int .i64 y)] (fun r => ∃ b, r = .v (.bool b) ∧ (b = true ↔ leapP y)) := by
  refine HasC.of [] (fn := Try.f109) tyOk mixed (fun args w => Try.call109 args w) Try.func109 rfl (by kernel_rfl) (Nat.le_of_ble_eq_true rfl) (⟨_, decide (leapP y), rfl, by simp⟩) ?_
  refine vc_seqr rfl (iQ 1 (iE 16 [(0, Ia y), (2, Ba false)] [] ?_))
  refine vc_seqr rfl (iQ 1 (iB .rem 3 (.int .i64 y) (.int .i64 4) (some 4) ?_))
  refine And.intro (by omega) ?_
  intro z4 hz4
  have h4 := tm0 (n := 4) hz4 (by decide)
  refine iB .eql 3 (.int .i64 z4) (.int .i64 0) (some 5) ?_
  intro c5 hc5
  refine iQ 1 ?_
  cases c5
  · replace hc5 := bf hc5
    refine iQ 10 (iE 16 [(2, Ba false)] [] ?_)
    refine vc_ret (iR (Bv false) ?_)
    exact ⟨_, rfl, ⟨fun h => (by cases h), fun h => absurd (h4.2 h.1) hc5⟩⟩
  · replace hc5 := bt hc5
    refine iQ 1 (iB .rem 3 (.int .i64 y) (.int .i64 100) (some 8) ?_)
    refine And.intro (by omega) ?_
    intro z8 hz8
    have h8 := tm0 (n := 100) hz8 (by decide)
    refine iB .neq 3 (.int .i64 z8) (.int .i64 0) (some 9) ?_
    intro c9 hc9
    refine iQ 1 ?_
    cases c9
    · replace hc9 := bf hc9
      refine iQ 1 (iB .rem 3 (.int .i64 y) (.int .i64 400) (some 12) ?_)
      refine And.intro (by omega) ?_
      intro z12 hz12
      have h12 := tm0 (n := 400) hz12 (by decide)
      refine iB .eql 3 (.int .i64 z12) (.int .i64 0) (some 13) ?_
      intro c13 hc13
      refine iQ 3 (iE 16 [(2, Ba c13)] [] ?_)
      refine vc_ret (iR (Bv c13) ?_)
      exact ⟨_, rfl, by rw [hc13, h12]; unfold leapP; omega⟩
    · replace hc9 := bt hc9
      refine iQ 6 (iE 16 [(2, Ba true)] [] ?_)
      refine vc_ret (iR (Bv true) ?_)
      exact ⟨_, rfl, ⟨fun _ => ⟨h4.1 hc5, .inl fun k => hc9 (h8.2 k)⟩, fun _ => rfl⟩⟩

set_option maxHeartbeats 1600000 in
theorem c_Length {y m : Int} : HasC Try.prog 92 [.v (.int .i64 y), .v (.int .i64 m)] (fun r => r = .v (.int .i64 (lenI y m))) := by
  refine HasC.of [] (fn := Try.f92) tyOk mixed (fun args w => Try.call92 args w) Try.func92 rfl (by kernel_rfl) (Nat.le_of_ble_eq_true rfl) (⟨_, rfl⟩) ?_
  refine vc_seqr rfl (iQ 1 (iE 23 [(0, Ia y), (1, Ia m), (4, Ia 0)] [] ?_))
  refine vc_seq (vc_seqr rfl (iQ 1 (iE 23 [(0, Ia y), (4, Ia 0), (5, Ia m)] [] ?_)))
  refine vc_block (vc_seq (vc_seqr rfl (iB .eql 3 (.int .i64 m) (.int .i64 1) (some 7) ?_)))
  intro c7 hc7
  refine iQ 1 (iE 23 [(0, Ia y), (4, Ia 0), (5, Ia m), (6, Ba c7)] [] ?_)
  cases c7
  · replace hc7 := bf hc7
    refine iF (vc_seqr rfl (iB .eql 3 (.int .i64 m) (.int .i64 3) (some 8) ?_))
    intro c8 hc8
    refine iQ 1 (iE 23 [(0, Ia y), (4, Ia 0), (5, Ia m), (6, Ba c8)] [] ?_)
    cases c8
    · replace hc8 := bf hc8
      refine iF (vc_seqr rfl (iB .eql 3 (.int .i64 m) (.int .i64 5) (some 9) ?_))
      intro c9 hc9
      refine iQ 1 (iE 23 [(0, Ia y), (4, Ia 0), (5, Ia m), (6, Ba c9)] [] ?_)
      cases c9
      · replace hc9 := bf hc9
        refine iF (vc_seqr rfl (iB .eql 3 (.int .i64 m) (.int .i64 7) (some 10) ?_))
        intro c10 hc10
        refine iQ 1 (iE 23 [(0, Ia y), (4, Ia 0), (5, Ia m), (6, Ba c10)] [] ?_)
        cases c10
        · replace hc10 := bf hc10
          refine iF (vc_seqr rfl (iB .eql 3 (.int .i64 m) (.int .i64 8) (some 11) ?_))
          intro c11 hc11
          refine iQ 1 (iE 23 [(0, Ia y), (4, Ia 0), (5, Ia m), (6, Ba c11)] [] ?_)
          cases c11
          · replace hc11 := bf hc11
            refine iF (vc_seqr rfl (iB .eql 3 (.int .i64 m) (.int .i64 10) (some 12) ?_))
            intro c12 hc12
            refine iQ 1 (iE 23 [(0, Ia y), (4, Ia 0), (5, Ia m), (6, Ba c12)] [] ?_)
            cases c12
            · replace hc12 := bf hc12
              refine iF (vc_reg rfl (iB .eql 3 (.int .i64 m) (.int .i64 12) (some 13) ?_))
              intro c13 hc13
              refine iQ 1 (iE 23 [(0, Ia y), (4, Ia 0), (5, Ia m), (6, Ba c13)] [] ?_)
              refine seq_n ?_
              cases c13
              · replace hc13 := bf hc13
                refine iF (vc_seq (vc_seqr rfl (iB .eql 3 (.int .i64 m) (.int .i64 4) (some 15) ?_)))
                intro c15 hc15
                refine iQ 1 (iE 23 [(0, Ia y), (4, Ia 0), (5, Ia m), (6, Ba false), (14, Ba c15)] [] ?_)
                cases c15
                · replace hc15 := bf hc15
                  refine iF (vc_seqr rfl (iB .eql 3 (.int .i64 m) (.int .i64 6) (some 16) ?_))
                  intro c16 hc16
                  refine iQ 1 (iE 23 [(0, Ia y), (4, Ia 0), (5, Ia m), (6, Ba false), (14, Ba c16)] [] ?_)
                  cases c16
                  · replace hc16 := bf hc16
                    refine iF (vc_seqr rfl (iB .eql 3 (.int .i64 m) (.int .i64 9) (some 17) ?_))
                    intro c17 hc17
                    refine iQ 1 (iE 23 [(0, Ia y), (4, Ia 0), (5, Ia m), (6, Ba false), (14, Ba c17)] [] ?_)
                    cases c17
                    · replace hc17 := bf hc17
                      refine iF (vc_reg rfl (iB .eql 3 (.int .i64 m) (.int .i64 11) (some 18) ?_))
                      intro c18 hc18
                      refine iQ 1 (iE 23 [(0, Ia y), (4, Ia 0), (5, Ia m), (6, Ba false), (14, Ba c18)] [] ?_)
                      refine seq_n ?_
                      cases c18
                      · replace hc18 := bf hc18
                        refine iF (vc_seqr rfl (iB .eql 3 (.int .i64 m) (.int .i64 2) (some 20) ?_))
                        intro c20 hc20
                        refine iQ 1 (iE 23 [(0, Ia y), (4, Ia 0), (5, Ia m), (6, Ba false), (14, Ba false), (19, Ba c20)] [] ?_)
                        cases c20
                        · replace hc20 := bf hc20
                          refine iF (vc_skip (block_n (seq_n (vc_seqr rfl (iQ 1 (iE 23 [(0, Ia y), (4, Ia 0), (5, Ia m), (6, Ba false), (14, Ba false), (19, Ba false)] [] ?_))))))
                          refine vc_ret (iR (Iv 0) ?_)
                          rw [lenI, if_neg (by omega), if_neg (by omega), if_neg (by omega)]
                        · replace hc20 := bt hc20
                          refine iT (vc_seq (vc_seqr rfl (iQ 1 (iC 109 [Iv y] (some 22) (c_Leap) ?_))))
                          rintro _ ⟨lp, rfl, hlp⟩
                          refine iE 23 [(4, Ia 0), (5, Ia m), (6, Ba false), (14, Ba false), (19, Ba true), (22, Ba lp)] [] ?_
                          cases lp
                          · replace hlp := bf hlp
                            refine iF (vc_skip (seq_n (vc_seqr rfl (iQ 1 (iE 23 [(4, Ia 28), (5, Ia m), (6, Ba false), (14, Ba false), (19, Ba true), (22, Ba false)] [] ?_)))))
                            refine vc_ret (block_r (seq_r (iR (Iv 28) ?_)))
                            rw [lenI, if_neg (by omega), if_neg (by omega), if_pos (by omega), if_neg hlp]
                          · replace hlp := bt hlp
                            refine iT (vc_seqr rfl (iQ 1 (iE 23 [(4, Ia 29), (5, Ia m), (6, Ba false), (14, Ba false), (19, Ba true), (22, Ba true)] [] ?_)))
                            refine vc_ret (seq_r (block_r (seq_r (iR (Iv 29) ?_))))
                            rw [lenI, if_neg (by omega), if_neg (by omega), if_pos (by omega), if_pos hlp]
                      · replace hc18 := bt hc18
                        refine iT (vc_seqr rfl (iQ 1 (iE 23 [(0, Ia y), (4, Ia 30), (5, Ia m), (6, Ba false), (14, Ba true)] [] ?_)))
                        refine vc_ret (block_r (seq_r (iR (Iv 30) ?_)))
                        rw [lenI, if_neg (by omega), if_pos (by omega)]
                    · replace hc17 := bt hc17
                      refine iT (vc_skip (seq_n (iT (vc_seqr rfl (iQ 1 (iE 23 [(0, Ia y), (4, Ia 30), (5, Ia m), (6, Ba false), (14, Ba true)] [] ?_))))))
                      refine vc_ret (block_r (seq_r (iR (Iv 30) ?_)))
                      rw [lenI, if_neg (by omega), if_pos (by omega)]
                  · replace hc16 := bt hc16
                    refine iT (vc_skip (seq_n (iT (vc_seqr rfl (iQ 1 (iE 23 [(0, Ia y), (4, Ia 30), (5, Ia m), (6, Ba false), (14, Ba true)] [] ?_))))))
                    refine vc_ret (block_r (seq_r (iR (Iv 30) ?_)))
                    rw [lenI, if_neg (by omega), if_pos (by omega)]
                · replace hc15 := bt hc15
                  refine iT (vc_skip (seq_n (iT (vc_seqr rfl (iQ 1 (iE 23 [(0, Ia y), (4, Ia 30), (5, Ia m), (6, Ba false), (14, Ba true)] [] ?_))))))
                  refine vc_ret (block_r (seq_r (iR (Iv 30) ?_)))
                  rw [lenI, if_neg (by omega), if_pos (by omega)]
              · replace hc13 := bt hc13
                refine iT (vc_seqr rfl (iQ 1 (iE 23 [(0, Ia y), (4, Ia 31), (5, Ia m), (6, Ba true)] [] ?_)))
                refine vc_ret (block_r (seq_r (iR (Iv 31) ?_)))
                rw [lenI, if_pos (by omega)]
            · replace hc12 := bt hc12
              refine iT (vc_skip (seq_n (iT (vc_seqr rfl (iQ 1 (iE 23 [(0, Ia y), (4, Ia 31), (5, Ia m), (6, Ba true)] [] ?_))))))
              refine vc_ret (block_r (seq_r (iR (Iv 31) ?_)))
              rw [lenI, if_pos (by omega)]
          · replace hc11 := bt hc11
            refine iT (vc_skip (seq_n (iT (vc_seqr rfl (iQ 1 (iE 23 [(0, Ia y), (4, Ia 31), (5, Ia m), (6, Ba true)] [] ?_))))))
            refine vc_ret (block_r (seq_r (iR (Iv 31) ?_)))
            rw [lenI, if_pos (by omega)]
        · replace hc10 := bt hc10
          refine iT (vc_skip (seq_n (iT (vc_seqr rfl (iQ 1 (iE 23 [(0, Ia y), (4, Ia 31), (5, Ia m), (6, Ba true)] [] ?_))))))
          refine vc_ret (block_r (seq_r (iR (Iv 31) ?_)))
          rw [lenI, if_pos (by omega)]
      · replace hc9 := bt hc9
        refine iT (vc_skip (seq_n (iT (vc_seqr rfl (iQ 1 (iE 23 [(0, Ia y), (4, Ia 31), (5, Ia m), (6, Ba true)] [] ?_))))))
        refine vc_ret (block_r (seq_r (iR (Iv 31) ?_)))
        rw [lenI, if_pos (by omega)]
    · replace hc8 := bt hc8
      refine iT (vc_skip (seq_n (iT (vc_seqr rfl (iQ 1 (iE 23 [(0, Ia y), (4, Ia 31), (5, Ia m), (6, Ba true)] [] ?_))))))
      refine vc_ret (block_r (seq_r (iR (Iv 31) ?_)))
      rw [lenI, if_pos (by omega)]
  · replace hc7 := bt hc7
    refine iT (vc_skip (seq_n (iT (vc_seqr rfl (iQ 1 (iE 23 [(0, Ia y), (4, Ia 31), (5, Ia m), (6, Ba true)] [] ?_))))))
    refine vc_ret (block_r (seq_r (iR (Iv 31) ?_)))
    rw [lenI, if_pos (by omega)]

def mayD (y m d : Int) : Prop := -999999999 ≤ y ∧ y ≤ 999999999 ∧ 1 ≤ d ∧ d ≤ lenI y m
instance (y m d : Int) : Decidable (mayD y m d) := inferInstanceAs (Decidable (_ ∧ _))

theorem c_DateMay {y m d : Int} : HasC Try.prog 88 [.agg [.v (.int .i64 y), .v (.int .i64 m), .v (.int .i64 d)]] (fun r => ∃ b, r = .v (.bool b) ∧ (b = true ↔ mayD y m d)) := by
  refine HasC.of [] (fn := Try.f88) tyOk mixed (fun args w => Try.call88 args w) Try.func88 rfl (by kernel_rfl) (Nat.le_of_ble_eq_true rfl) (⟨_, decide (mayD y m d), rfl, by simp⟩) ?_
  refine vc_seqr rfl (iQ 2 (iE 26 [(1, .p 1 0), (2, Ba false)] [(1, [Iv y, Iv m, Iv d])] ?_))
  refine vc_seqr rfl (iQ 2 (iB .geq 3 (.int .i64 y) (.int .i64 (-999999999)) (some 5) ?_))
  intro c5 hc5
  refine iQ 1 ?_
  cases c5
  · replace hc5 := bf hc5
    refine iQ 20 (iE 26 [(2, Ba false)] [] ?_)
    refine vc_ret (iR (Bv false) ?_)
    exact ⟨_, rfl, ⟨fun h => (by cases h), fun h => by unfold mayD at h; omega⟩⟩
  · replace hc5 := bt hc5
    refine iQ 2 (iB .leq 3 (.int .i64 y) (.int .i64 999999999) (some 9) ?_)
    intro c9 hc9
    refine iQ 2 ?_
    cases c9
    · replace hc9 := bf hc9
      refine iQ 15 (iE 26 [(2, Ba false)] [] ?_)
      refine vc_ret (iR (Bv false) ?_)
      exact ⟨_, rfl, ⟨fun h => (by cases h), fun h => by unfold mayD at h; omega⟩⟩
    · replace hc9 := bt hc9
      refine iQ 2 (iB .geq 3 (.int .i64 d) (.int .i64 1) (some 14) ?_)
      intro c14 hc14
      refine iQ 2 ?_
      cases c14
      · replace hc14 := bf hc14
        refine iQ 10 (iE 26 [(2, Ba false)] [] ?_)
        refine vc_ret (iR (Bv false) ?_)
        exact ⟨_, rfl, ⟨fun h => (by cases h), fun h => by unfold mayD at h; omega⟩⟩
      · replace hc14 := bt hc14
        refine iQ 6 (iC 92 [Iv y, Iv m] (some 23) (c_Length) ?_)
        rintro _ rfl
        refine iB .leq 3 (.int .i64 d) (.int .i64 (lenI y m)) (some 24) ?_
        intro c24 hc24
        refine iQ 2 (iE 26 [(2, Ba c24)] [] ?_)
        refine vc_ret (iR (Bv c24) ?_)
        exact ⟨_, rfl, by rw [hc24]; unfold mayD; omega⟩

theorem c_floor {a b : Int} (hb : 0 < b) (h0 : -9223372036854775000 ≤ a) (h1 : a ≤ 9223372036854775000) : HasC Try.prog 89 [.v (.int .i64 a), .v (.int .i64 b)] (fun r => r = .v (.int .i64 (a / b))) := by
  refine HasC.of [] (fn := Try.f89) tyOk mixed (fun args w => Try.call89 args w) Try.func89 rfl (by kernel_rfl) (Nat.le_of_ble_eq_true rfl) (⟨_, rfl⟩) ?_
  refine vc_seqr rfl (iQ 1 (iE 16 [(0, Ia a), (1, Ia b), (4, Ia 0)] [] ?_))
  refine vc_seqr rfl (iQ 2 (iB .quo 3 (.int .i64 a) (.int .i64 b) (some 8) ?_))
  refine And.intro (by omega) ?_
  intro z8 hz8
  have h8 := quo_is hz8 hb (by omega) (by omega)
  refine iQ 1 (iE 16 [(0, Ia a), (1, Ia b), (4, Ia 0), (5, Ia z8)] [] ?_)
  refine vc_seq (vc_seqr rfl (iQ 2 (iB .rem 3 (.int .i64 a) (.int .i64 b) (some 11) ?_)))
  refine And.intro (by omega) ?_
  intro z11 hz11
  have h11 := fl_up hb h8 hz11
  have h9 := td_abs a hb
  refine iB .lss 3 (.int .i64 z11) (.int .i64 0) (some 12) ?_
  intro c12 hc12
  refine iE 16 [(0, Ia a), (1, Ia b), (4, Ia 0), (5, Ia z8), (12, Ba c12)] [] ?_
  cases c12
  · replace hc12 := bf hc12
    refine iF (vc_skip (seq_n (vc_seqr rfl (iQ 2 (iE 16 [(0, Ia a), (1, Ia b), (4, Ia z8), (5, Ia z8), (12, Ba false)] [] ?_)))))
    refine vc_ret (iR (Iv z8) ?_)
    rw [h11.2 hc12]
  · replace hc12 := bt hc12
    refine iT (vc_reg rfl (iQ 1 (iB .sub 3 (.int .i64 z8) (.int .i64 1) (some 14) ?_)))
    intro z14 hz14
    try replace hz14 := hz14.i64 (by omega)
    refine iQ 1 (iE 16 [(0, Ia a), (1, Ia b), (4, Ia 0), (5, Ia z14), (12, Ba true)] [] ?_)
    refine seq_n (vc_seqr rfl (iQ 2 (iE 16 [(0, Ia a), (1, Ia b), (4, Ia z14), (5, Ia z14), (12, Ba true)] [] ?_)))
    refine vc_ret (iR (Iv z14) ?_)
    rw [h11.1 hc12, ← hz14]

/-- The number of a day, of a year that begins in March. -/
def numJ (y m d : Int) : Int := 146097 * (y / 400) + 365 * (y - 400 * (y / 400)) + (y - 400 * (y / 400)) / 4 - (y - 400 * (y / 400)) / 100 + ((153 * (m - 3) + 2) / 5 + d - 1) - 719468
def numI (y m d : Int) : Int := if m ≤ 2 then numJ (y - 1) (m + 12) d else numJ y m d
theorem mayD_rng {y m d : Int} (h : mayD y m d) : -999999999 ≤ y ∧ y ≤ 999999999 ∧ 1 ≤ m ∧ m ≤ 12 ∧ 1 ≤ d ∧ d ≤ 31 := by
  obtain ⟨h1, h2, h3, h4⟩ := h
  have h5 := lenI_pos (show 1 ≤ lenI y m by omega)
  have h6 := lenI_le y m
  omega
theorem numI_rng {y m d : Int} (h : mayD y m d) : -366000000000 ≤ numI y m d ∧ numI y m d ≤ 366000000000 := by
  have h1 := mayD_rng h
  unfold numI numJ
  split <;> omega

set_option maxHeartbeats 1600000 in
theorem c_Number {y m d : Int} (hmay : mayD y m d) : HasC Try.prog 47 [.agg [.v (.int .i64 y), .v (.int .i64 m), .v (.int .i64 d)]] (fun r => r = .tup [.v (.int .i64 (numI y m d)), .v (.bool true)]) := by
  refine HasC.of [] (fn := Try.f47) tyOk mixed (fun args w => Try.call47 args w) Try.func47 rfl (by kernel_rfl) (Nat.le_of_ble_eq_true rfl) (⟨_, rfl⟩) ?_
  have hr := mayD_rng hmay
  refine vc_seqr rfl (iQ 3 (iE 51 [(1, .p 1 0), (2, Ia 0), (3, Ba false)] [(1, [Iv y, Iv m, Iv d])] ?_))
  refine vc_seq (vc_seqr rfl (iQ 1 (iC 88 [.agg [Iv y, Iv m, Iv d]] (some 10) (c_DateMay) ?_)))
  rintro _ ⟨b, rfl, hb⟩
  refine iU .not (.bool b) (some 11) ?_
  refine all_false ((by rw [hb.2 hmay]; simp)) ?_
  refine iE 51 [(1, .p 1 0), (2, Ia 0), (3, Ba false), (11, Ba false)] [(1, [Iv y, Iv m, Iv d])] ?_
  refine iF (vc_skip (seq_n (vc_seqr rfl (iQ 6 (iE 51 [(1, .p 1 0), (2, Ia 0), (3, Ba false), (4, Ia y), (5, Ia m), (11, Ba false)] [(1, [Iv y, Iv m, Iv d])] ?_)))))
  refine vc_mid 51 (fun (vcx : Int × Int × Bool) => match vcx with | (y1, m1, vb17) => [(1, .p 1 0), (2, Ia 0), (3, Ba false), (4, Ia y1), (5, Ia m1), (11, Ba false), (17, Ba vb17)]) (fun (vcx : Int × Int × Bool) => match vcx with | (y1, m1, vb17) => [(1, [Iv y, Iv m, Iv d])]) (fun (vcx : Int × Int × Bool) => match vcx with | (y1, m1, vb17) => (m ≤ 2 ∧ y1 = y - 1 ∧ m1 = m + 12) ∨ (2 < m ∧ y1 = y ∧ m1 = m)) ?_ ?_
  · rintro ⟨y1, m1, vb17⟩ hinv
    simp only at hinv
    refine vc_seqr rfl (iQ 1 (iC 89 [Iv y1, Iv 400] (some 23) (c_floor (by decide) (by omega) (by omega)) ?_))
    rintro _ rfl
    refine iQ 1 (iE 51 [(1, .p 1 0), (2, Ia 0), (3, Ba false), (4, Ia y1), (5, Ia m1), (6, Ia (y1 / 400)), (11, Ba false), (17, Ba vb17)] [(1, [Iv y, Iv m, Iv d])] ?_)
    refine vc_seqr rfl (iQ 2 (iB .mul 3 (.int .i64 400) (.int .i64 (y1 / 400)) (some 26) ?_))
    intro z26 hz26
    try replace hz26 := hz26.i64 (by omega)
    refine iB .sub 3 (.int .i64 y1) (.int .i64 z26) (some 27) ?_
    intro z27 hz27
    try replace hz27 := hz27.i64 (by omega)
    refine iQ 1 (iE 51 [(1, .p 1 0), (2, Ia 0), (3, Ba false), (4, Ia y1), (5, Ia m1), (6, Ia (y1 / 400)), (7, Ia z27), (11, Ba false), (17, Ba vb17)] [(1, [Iv y, Iv m, Iv d])] ?_)
    refine vc_seqr rfl (iQ 1 (iB .sub 3 (.int .i64 m1) (.int .i64 3) (some 29) ?_))
    intro z29 hz29
    try replace hz29 := hz29.i64 (by omega)
    refine iB .mul 3 (.int .i64 153) (.int .i64 z29) (some 30) ?_
    intro z30 hz30
    try replace hz30 := hz30.i64 (by omega)
    refine iB .add 3 (.int .i64 z30) (.int .i64 2) (some 31) ?_
    intro z31 hz31
    try replace hz31 := hz31.i64 (by omega)
    refine iB .quo 3 (.int .i64 z31) (.int .i64 5) (some 32) ?_
    refine And.intro (by omega) ?_
    intro z32 hz32
    have h32 := quo_pos hz32 (by decide) (by omega) (by omega)
    refine iQ 2 (iB .add 3 (.int .i64 z32) (.int .i64 d) (some 35) ?_)
    intro z35 hz35
    try replace hz35 := hz35.i64 (by omega)
    refine iB .sub 3 (.int .i64 z35) (.int .i64 1) (some 36) ?_
    intro z36 hz36
    try replace hz36 := hz36.i64 (by omega)
    refine iQ 1 (iE 51 [(1, .p 1 0), (2, Ia 0), (3, Ba false), (4, Ia y1), (5, Ia m1), (6, Ia (y1 / 400)), (7, Ia z27), (8, Ia z36), (11, Ba false), (17, Ba vb17)] [(1, [Iv y, Iv m, Iv d])] ?_)
    refine vc_seqr rfl (iQ 1 (iB .mul 3 (.int .i64 146097) (.int .i64 (y1 / 400)) (some 38) ?_))
    intro z38 hz38
    try replace hz38 := hz38.i64 (by omega)
    refine iQ 1 (iB .mul 3 (.int .i64 365) (.int .i64 z27) (some 40) ?_)
    intro z40 hz40
    try replace hz40 := hz40.i64 (by omega)
    refine iB .add 3 (.int .i64 z38) (.int .i64 z40) (some 41) ?_
    intro z41 hz41
    try replace hz41 := hz41.i64 (by omega)
    refine iQ 1 (iB .quo 3 (.int .i64 z27) (.int .i64 4) (some 43) ?_)
    refine And.intro (by omega) ?_
    intro z43 hz43
    have h43 := quo_pos hz43 (by decide) (by omega) (by omega)
    refine iB .add 3 (.int .i64 z41) (.int .i64 z43) (some 44) ?_
    intro z44 hz44
    try replace hz44 := hz44.i64 (by omega)
    refine iQ 1 (iB .quo 3 (.int .i64 z27) (.int .i64 100) (some 46) ?_)
    refine And.intro (by omega) ?_
    intro z46 hz46
    have h46 := quo_pos hz46 (by decide) (by omega) (by omega)
    have e1 : numI y m d = numJ y1 m1 d := by unfold numI; rcases hinv with ⟨k1, k2, k3⟩ | ⟨k1, k2, k3⟩; rw [if_pos k1, k2, k3]; rw [if_neg (by omega), k2, k3]
    refine iB .sub 3 (.int .i64 z44) (.int .i64 z46) (some 47) ?_
    intro z47 hz47
    try replace hz47 := hz47.i64 (by omega)
    refine iQ 1 (iB .add 3 (.int .i64 z47) (.int .i64 z36) (some 49) ?_)
    intro z49 hz49
    try replace hz49 := hz49.i64 (by omega)
    refine iB .sub 3 (.int .i64 z49) (.int .i64 719468) (some 50) ?_
    intro z50 hz50
    try replace hz50 := hz50.i64 (by omega)
    refine iQ 2 (iE 51 [(1, .p 1 0), (2, Ia z50), (3, Ba true), (4, Ia y1), (5, Ia m1), (6, Ia (y1 / 400)), (11, Ba false), (17, Ba vb17)] [(1, [Iv y, Iv m, Iv d])] ?_)
    refine vc_ret (iS (Iv z50) (Bv true) [] ?_)
    rw [e1, show numJ y1 m1 d = z50 by unfold numJ; rw [show y1 - 400 * (y1 / 400) = z27 by omega]; omega]
  intro hmid
  refine vc_seqr rfl (iQ 1 (iB .leq 3 (.int .i64 m) (.int .i64 2) (some 17) ?_))
  intro c17 hc17
  refine iE 51 [(1, .p 1 0), (2, Ia 0), (3, Ba false), (4, Ia y), (5, Ia m), (11, Ba false), (17, Ba c17)] [(1, [Iv y, Iv m, Iv d])] ?_
  cases c17
  · replace hc17 := bf hc17
    refine iF (vc_skip ?_)
    refine mid_n hmid (y, m, false) (by omega) (by kernel_rfl)
  · replace hc17 := bt hc17
    refine iT (vc_reg rfl (iQ 1 (iB .sub 3 (.int .i64 y) (.int .i64 1) (some 19) ?_)))
    intro z19 hz19
    try replace hz19 := hz19.i64 (by omega)
    refine iQ 1 (iB .add 3 (.int .i64 m) (.int .i64 12) (some 21) ?_)
    intro z21 hz21
    try replace hz21 := hz21.i64 (by omega)
    refine iQ 2 (iE 51 [(1, .p 1 0), (2, Ia 0), (3, Ba false), (4, Ia z19), (5, Ia z21), (11, Ba false), (17, Ba true)] [(1, [Iv y, Iv m, Iv d])] ?_)
    refine mid_n hmid (z19, z21, true) (by omega) (by kernel_rfl)

def ofEra (n : Int) : Int := (n + 719468) / 146097
def ofOf (n : Int) : Int := n + 719468 - 146097 * ofEra n
def ofYr (o : Int) : Int := (o - o / 1460 + o / 36524 - o / 146096) / 365
def ofDay (o : Int) : Int := o - (365 * ofYr o + ofYr o / 4 - ofYr o / 100)
def ofMon (o : Int) : Int := (5 * ofDay o + 2).tdiv 153
def ofDom (o : Int) : Int := ofDay o - (153 * ofMon o + 2).tdiv 5 + 1
abbrev D4 := Int × Int × Int × Bool
/-- The day of a number. -/
def ofT (n : Int) : D4 :=
  if n < -400000000000 ∨ 400000000000 < n then (0, 0, 0, false)
  else if 12 < ofMon (ofOf n) + 3 then (if mayD (400 * ofEra n + ofYr (ofOf n) + 1) (ofMon (ofOf n) + 3 - 12) (ofDom (ofOf n)) then (400 * ofEra n + ofYr (ofOf n) + 1, ofMon (ofOf n) + 3 - 12, ofDom (ofOf n), true) else (0, 0, 0, false))
  else if mayD (400 * ofEra n + ofYr (ofOf n)) (ofMon (ofOf n) + 3) (ofDom (ofOf n)) then (400 * ofEra n + ofYr (ofOf n), ofMon (ofOf n) + 3, ofDom (ofOf n), true) else (0, 0, 0, false)
def dD4 (t : D4) : DV := .tup [.agg [.v (.int .i64 t.1), .v (.int .i64 t.2.1), .v (.int .i64 t.2.2.1)], .v (.bool t.2.2.2)]
theorem of_rng (n : Int) : 0 ≤ ofOf n ∧ ofOf n ≤ 146096 := by
  unfold ofOf ofEra
  omega
theorem yr_rng {o : Int} (h0 : 0 ≤ o) (h1 : o ≤ 146096) : 0 ≤ ofYr o ∧ ofYr o ≤ 400 := by
  unfold ofYr
  omega
theorem day_rng {o : Int} (h0 : 0 ≤ o) (h1 : o ≤ 146096) : -200000 ≤ ofDay o ∧ ofDay o ≤ 200000 := by
  have := yr_rng h0 h1
  unfold ofDay
  omega
theorem mon_rng {o : Int} (h0 : 0 ≤ o) (h1 : o ≤ 146096) : -2000000 ≤ ofMon o ∧ ofMon o ≤ 2000000 := by
  have h2 := day_rng h0 h1
  have h3 := td_abs (5 * ofDay o + 2) (show (0 : Int) < 153 by decide)
  unfold ofMon
  omega
theorem dom_rng {o : Int} (h0 : 0 ≤ o) (h1 : o ≤ 146096) : -400000000 ≤ ofDom o ∧ ofDom o ≤ 400000000 := by
  have h2 := day_rng h0 h1
  have h3 := mon_rng h0 h1
  have h4 := td_abs (153 * ofMon o + 2) (show (0 : Int) < 5 by decide)
  unfold ofDom
  omega

set_option maxHeartbeats 3200000 in
theorem c_civOf {n : Int} (h0 : -9223372036854775808 ≤ n) (h1 : n ≤ 9223372036854775807) : HasC Try.prog 49 [.v (.int .i64 n)] (fun r => r = dD4 (ofT n)) := by
  refine HasC.of [] (fn := Try.f49) tyOk mixed (fun args w => Try.call49 args w) Try.func49 rfl (by kernel_rfl) (Nat.le_of_ble_eq_true rfl) (⟨_, rfl⟩) ?_
  refine vc_seqr rfl (iQ 2 (iE 80 [(0, Ia n), (2, .p 2 0), (3, Ba false)] [(2, [Iv 0, Iv 0, Iv 0])] ?_))
  refine vc_seq (vc_seqr rfl (iQ 1 (iB .lss 3 (.int .i64 n) (.int .i64 (-400000000000)) (some 11) ?_)))
  intro c11 hc11
  refine iQ 1 ?_
  cases c11
  · replace hc11 := bf hc11
    refine iQ 1 (iB .gtr 3 (.int .i64 n) (.int .i64 400000000000) (some 14) ?_)
    intro c14 hc14
    refine iQ 1 (iE 80 [(0, Ia n), (2, .p 2 0), (3, Ba false), (15, Ba c14)] [(2, [Iv 0, Iv 0, Iv 0])] ?_)
    cases c14
    · replace hc14 := bf hc14
      refine iF (vc_skip (seq_n (vc_seqr rfl (iQ 1 (iB .add 3 (.int .i64 n) (.int .i64 719468) (some 18) ?_)))))
      intro z18 hz18
      try replace hz18 := hz18.i64 (by omega)
      refine iQ 1 (iE 80 [(0, Ia z18), (2, .p 2 0), (3, Ba false), (15, Ba false)] [(2, [Iv 0, Iv 0, Iv 0])] ?_)
      refine vc_seqr rfl (iQ 1 (iC 89 [Iv z18, Iv 146097] (some 20) (c_floor (by decide) (by omega) (by omega)) ?_))
      rintro _ rfl
      have eE : ofEra n = z18 / 146097 := by unfold ofEra; rw [hz18]
      refine iQ 1 (iE 80 [(0, Ia z18), (2, .p 2 0), (3, Ba false), (4, Ia (z18 / 146097)), (15, Ba false)] [(2, [Iv 0, Iv 0, Iv 0])] ?_)
      refine vc_seqr rfl (iQ 2 (iB .mul 3 (.int .i64 146097) (.int .i64 (z18 / 146097)) (some 23) ?_))
      intro z23 hz23
      try replace hz23 := hz23.i64 (by omega)
      refine iB .sub 3 (.int .i64 z18) (.int .i64 z23) (some 24) ?_
      intro z24 hz24
      try replace hz24 := hz24.i64 (by omega)
      have eO : ofOf n = z24 := by unfold ofOf; rw [eE]; omega
      have hO := of_rng n
      rw [eO] at hO
      refine iQ 1 (iE 80 [(0, Ia z18), (2, .p 2 0), (3, Ba false), (4, Ia (z18 / 146097)), (5, Ia z24), (15, Ba false)] [(2, [Iv 0, Iv 0, Iv 0])] ?_)
      refine vc_seqr rfl (iQ 2 (iB .quo 3 (.int .i64 z24) (.int .i64 1460) (some 27) ?_))
      refine And.intro (by omega) ?_
      intro z27 hz27
      have h27 := quo_pos hz27 (by decide) hO.1 (by omega)
      refine iB .sub 3 (.int .i64 z24) (.int .i64 z27) (some 28) ?_
      intro z28 hz28
      try replace hz28 := hz28.i64 (by omega)
      refine iQ 1 (iB .quo 3 (.int .i64 z24) (.int .i64 36524) (some 30) ?_)
      refine And.intro (by omega) ?_
      intro z30 hz30
      have h30 := quo_pos hz30 (by decide) hO.1 (by omega)
      refine iB .add 3 (.int .i64 z28) (.int .i64 z30) (some 31) ?_
      intro z31 hz31
      try replace hz31 := hz31.i64 (by omega)
      refine iQ 1 (iB .quo 3 (.int .i64 z24) (.int .i64 146096) (some 33) ?_)
      refine And.intro (by omega) ?_
      intro z33 hz33
      have h33 := quo_pos hz33 (by decide) hO.1 (by omega)
      refine iB .sub 3 (.int .i64 z31) (.int .i64 z33) (some 34) ?_
      intro z34 hz34
      try replace hz34 := hz34.i64 (by omega)
      refine iB .quo 3 (.int .i64 z34) (.int .i64 365) (some 35) ?_
      refine And.intro (by omega) ?_
      intro z35 hz35
      have h35 := quo_pos hz35 (by decide) (by omega) (by omega)
      have eY : ofYr z24 = z35 := by unfold ofYr; rw [h35]; congr 1; omega
      have hY := yr_rng hO.1 hO.2
      rw [eY] at hY
      refine iQ 1 (iE 80 [(0, Ia z18), (2, .p 2 0), (3, Ba false), (4, Ia (z18 / 146097)), (5, Ia z24), (6, Ia z35), (15, Ba false)] [(2, [Iv 0, Iv 0, Iv 0])] ?_)
      refine vc_seqr rfl (iQ 2 (iB .mul 3 (.int .i64 365) (.int .i64 z35) (some 38) ?_))
      intro z38 hz38
      try replace hz38 := hz38.i64 (by omega)
      refine iQ 1 (iB .quo 3 (.int .i64 z35) (.int .i64 4) (some 40) ?_)
      refine And.intro (by omega) ?_
      intro z40 hz40
      have h40 := quo_pos hz40 (by decide) hY.1 (by omega)
      refine iB .add 3 (.int .i64 z38) (.int .i64 z40) (some 41) ?_
      intro z41 hz41
      try replace hz41 := hz41.i64 (by omega)
      refine iQ 1 (iB .quo 3 (.int .i64 z35) (.int .i64 100) (some 43) ?_)
      refine And.intro (by omega) ?_
      intro z43 hz43
      have h43 := quo_pos hz43 (by decide) hY.1 (by omega)
      refine iB .sub 3 (.int .i64 z41) (.int .i64 z43) (some 44) ?_
      intro z44 hz44
      try replace hz44 := hz44.i64 (by omega)
      refine iB .sub 3 (.int .i64 z24) (.int .i64 z44) (some 45) ?_
      intro z45 hz45
      try replace hz45 := hz45.i64 (by omega)
      have eD : ofDay z24 = z45 := by unfold ofDay; rw [eY]; omega
      have hD := day_rng hO.1 hO.2
      rw [eD] at hD
      refine iQ 1 (iE 80 [(0, Ia z18), (2, .p 2 0), (3, Ba false), (4, Ia (z18 / 146097)), (5, Ia z24), (6, Ia z35), (7, Ia z45), (15, Ba false)] [(2, [Iv 0, Iv 0, Iv 0])] ?_)
      refine vc_seqr rfl (iQ 1 (iB .mul 3 (.int .i64 5) (.int .i64 z45) (some 47) ?_))
      intro z47 hz47
      try replace hz47 := hz47.i64 (by omega)
      refine iB .add 3 (.int .i64 z47) (.int .i64 2) (some 48) ?_
      intro z48 hz48
      try replace hz48 := hz48.i64 (by omega)
      refine iB .quo 3 (.int .i64 z48) (.int .i64 153) (some 49) ?_
      refine And.intro (by omega) ?_
      intro z49 hz49
      have h49 := quo_is hz49 (by decide) (by omega) (by omega)
      have eM : ofMon z24 = z49 := by unfold ofMon; rw [eD, h49]; congr 1; omega
      have hM := mon_rng hO.1 hO.2
      rw [eM] at hM
      refine iQ 1 (iE 80 [(0, Ia z18), (2, .p 2 0), (3, Ba false), (4, Ia (z18 / 146097)), (5, Ia z24), (6, Ia z35), (7, Ia z45), (8, Ia z49), (15, Ba false)] [(2, [Iv 0, Iv 0, Iv 0])] ?_)
      refine vc_seqr rfl (iQ 1 (iB .mul 3 (.int .i64 400) (.int .i64 (z18 / 146097)) (some 51) ?_))
      intro z51 hz51
      try replace hz51 := hz51.i64 (by omega)
      refine iQ 1 (iB .add 3 (.int .i64 z51) (.int .i64 z35) (some 53) ?_)
      intro z53 hz53
      try replace hz53 := hz53.i64 (by omega)
      refine iQ 1 (iB .add 3 (.int .i64 z49) (.int .i64 3) (some 55) ?_)
      intro z55 hz55
      try replace hz55 := hz55.i64 (by omega)
      refine iQ 2 (iB .mul 3 (.int .i64 153) (.int .i64 z49) (some 58) ?_)
      intro z58 hz58
      try replace hz58 := hz58.i64 (by omega)
      refine iB .add 3 (.int .i64 z58) (.int .i64 2) (some 59) ?_
      intro z59 hz59
      try replace hz59 := hz59.i64 (by omega)
      refine iB .quo 3 (.int .i64 z59) (.int .i64 5) (some 60) ?_
      refine And.intro (by omega) ?_
      intro z60 hz60
      have h60 := quo_is hz60 (by decide) (by omega) (by omega)
      have h60' := td_abs z59 (show (0 : Int) < 5 by decide)
      refine iB .sub 3 (.int .i64 z45) (.int .i64 z60) (some 61) ?_
      intro z61 hz61
      try replace hz61 := hz61.i64 (by omega)
      refine iB .add 3 (.int .i64 z61) (.int .i64 1) (some 62) ?_
      intro z62 hz62
      try replace hz62 := hz62.i64 (by omega)
      have eX : ofDom z24 = z62 := by unfold ofDom; rw [eD, eM, show 153 * z49 + 2 = z59 by omega, ← h60]; omega
      have hlow : ¬ (n < -400000000000 ∨ 400000000000 < n) := by omega
      refine iQ 3 (iE 80 [(0, Ia z18), (2, .p 2 0), (3, Ba false), (4, Ia (z18 / 146097)), (5, Ia z24), (6, Ia z35), (7, Ia z45), (9, .p 9 0), (15, Ba false)] [(2, [Iv 0, Iv 0, Iv 0]), (9, [Iv z53, Iv z55, Iv z62])] ?_)
      refine vc_mid 80 (fun (vcx : Int × Int × Bool) => match vcx with | (y1, m1, vb66) => [(0, Ia z18), (2, .p 2 0), (3, Ba false), (4, Ia (z18 / 146097)), (5, Ia z24), (6, Ia z35), (7, Ia z45), (9, .p 9 0), (15, Ba false), (66, Ba vb66)]) (fun (vcx : Int × Int × Bool) => match vcx with | (y1, m1, vb66) => [(2, [Iv 0, Iv 0, Iv 0]), (9, [Iv y1, Iv m1, Iv z62])]) (fun (vcx : Int × Int × Bool) => match vcx with | (y1, m1, vb66) => ofT n = (if mayD y1 m1 z62 then (y1, m1, z62, true) else (0, 0, 0, false))) ?_ ?_
      · rintro ⟨y1, m1, vb66⟩ hinv
        simp only at hinv
        refine vc_seq (vc_seqr rfl (iQ 1 (iC 88 [.agg [Iv y1, Iv m1, Iv z62]] (some 76) (c_DateMay) ?_)))
        rintro _ ⟨b, rfl, hb⟩
        refine iU .not (.bool b) (some 77) ?_
        intro c77 hc77
        refine iE 80 [(0, Ia z18), (2, .p 2 0), (3, Ba false), (4, Ia (z18 / 146097)), (5, Ia z24), (6, Ia z35), (7, Ia z45), (9, .p 9 0), (15, Ba false), (66, Ba vb66), (77, Ba c77)] [(2, [Iv 0, Iv 0, Iv 0]), (9, [Iv y1, Iv m1, Iv z62])] ?_
        cases c77
        · replace hc77 := bf hc77
          refine iF (vc_skip (seq_n (vc_seqr rfl (iQ 3 (iE 80 [(0, Ia z18), (2, .p 2 0), (3, Ba true), (4, Ia (z18 / 146097)), (5, Ia z24), (6, Ia z35), (7, Ia z45), (9, .p 9 0), (15, Ba false), (66, Ba vb66), (77, Ba false)] [(2, [Iv y1, Iv m1, Iv z62]), (9, [Iv y1, Iv m1, Iv z62])] ?_)))))
          refine vc_ret (iS (.agg [Iv y1, Iv m1, Iv z62]) (Bv true) [] ?_)
          rw [hinv, if_pos (hb.1 (by simpa using hc77))]; rfl
        · replace hc77 := bt hc77
          refine iT (vc_seqr rfl (iQ 3 (iE 80 [(0, Ia z18), (2, .p 2 0), (3, Ba false), (4, Ia (z18 / 146097)), (5, Ia z24), (6, Ia z35), (7, Ia z45), (9, .p 9 0), (15, Ba false), (66, Ba vb66), (77, Ba true)] [(2, [Iv 0, Iv 0, Iv 0]), (9, [Iv y1, Iv m1, Iv z62])] ?_)))
          refine vc_ret (seq_r (iS (.agg [Iv 0, Iv 0, Iv 0]) (Bv false) [] ?_))
          rw [hinv, if_neg (fun k => by rw [hb.2 k] at hc77; cases hc77)]; rfl
      intro hmid
      refine vc_seqr rfl (iQ 2 (iB .gtr 3 (.int .i64 z55) (.int .i64 12) (some 66) ?_))
      intro c66 hc66
      refine iE 80 [(0, Ia z18), (2, .p 2 0), (3, Ba false), (4, Ia (z18 / 146097)), (5, Ia z24), (6, Ia z35), (7, Ia z45), (9, .p 9 0), (15, Ba false), (66, Ba c66)] [(2, [Iv 0, Iv 0, Iv 0]), (9, [Iv z53, Iv z55, Iv z62])] ?_
      cases c66
      · replace hc66 := bf hc66
        refine iF (vc_skip ?_)
        refine mid_n hmid (z53, z55, false) (by rw [ofT, if_neg hlow, eO, eM, eY, eX, eE, if_neg (by omega), show 400 * (z18 / 146097) + z35 = z53 by omega, show z49 + 3 = z55 by omega]) (by kernel_rfl)
      · replace hc66 := bt hc66
        refine iT (vc_reg rfl (iQ 2 (iB .add 3 (.int .i64 z53) (.int .i64 1) (some 69) ?_)))
        intro z69 hz69
        try replace hz69 := hz69.i64 (by omega)
        refine iQ 2 (iB .sub 3 (.int .i64 z55) (.int .i64 12) (some 72) ?_)
        intro z72 hz72
        try replace hz72 := hz72.i64 (by omega)
        refine iQ 4 (iE 80 [(0, Ia z18), (2, .p 2 0), (3, Ba false), (4, Ia (z18 / 146097)), (5, Ia z24), (6, Ia z35), (7, Ia z45), (9, .p 9 0), (15, Ba false), (66, Ba true)] [(2, [Iv 0, Iv 0, Iv 0]), (9, [Iv z69, Iv z72, Iv z62])] ?_)
        refine mid_n hmid (z69, z72, true) (by rw [ofT, if_neg hlow, eO, eM, eY, eX, eE, if_pos (by omega), show 400 * (z18 / 146097) + z35 + 1 = z69 by omega, show z49 + 3 - 12 = z72 by omega]) (by kernel_rfl)
    · replace hc14 := bt hc14
      refine iT (vc_seqr rfl (iQ 3 (iE 80 [(0, Ia n), (2, .p 2 0), (3, Ba false), (15, Ba true)] [(2, [Iv 0, Iv 0, Iv 0])] ?_)))
      refine vc_ret (seq_r (iS (.agg [Iv 0, Iv 0, Iv 0]) (Bv false) [] ?_))
      rw [ofT, if_pos (by omega)]; rfl
  · replace hc11 := bt hc11
    refine iQ 3 (iE 80 [(0, Ia n), (2, .p 2 0), (3, Ba false), (15, Ba true)] [(2, [Iv 0, Iv 0, Iv 0])] ?_)
    refine iT (vc_seqr rfl (iQ 3 (iE 80 [(0, Ia n), (2, .p 2 0), (3, Ba false), (15, Ba true)] [(2, [Iv 0, Iv 0, Iv 0])] ?_)))
    refine vc_ret (seq_r (iS (.agg [Iv 0, Iv 0, Iv 0]) (Bv false) [] ?_))
    rw [ofT, if_pos (by omega)]; rfl

end Go.Proofs.Ytfjcblmmfkgkoaa
