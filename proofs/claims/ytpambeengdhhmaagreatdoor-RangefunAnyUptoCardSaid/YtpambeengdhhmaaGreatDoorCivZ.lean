/-
  civil: leap years, the lengths of months, days and their numbers. civil: a day comes back from its number; the order of days is that of their numbers; months later; which of two days is ahead. lexical: what the texts of days, times and durations are, what is read of a text: in lists of bytes, with no program in sight. lexical: the texts of days, times, moments and durations.
-/
import Derived.Test.YtpambeengdhhmaaGreatDoorVcX
import Derived.Test.YtpambeengdhhmaaGreatDoorVcG
import Derived.Test.YtpambeengdhhmaaGreatDoorTxS
import Derived.Test.YtpambeengdhhmaaGreatDoorIto
namespace Go.Proofs.YtpambeengdhhmaaGreatDoor

open Go.RowKit
set_option linter.unusedVariables false
set_option linter.unusedSimpArgs false
set_option maxRecDepth 100000

theorem td_abs (a : Int) {b : Int} (hb : 0 < b) : -(a.natAbs : Int) ≤ a.tdiv b ∧ a.tdiv b ≤ a.natAbs := by
  rcases Int.le_total 0 a with h | h
  · rw [Int.tdiv_eq_ediv_of_nonneg h]
    have h1 := Int.ediv_nonneg h (Int.le_of_lt hb)
    have h2 := Int.ediv_le_self b h
    omega
  · obtain ⟨c, rfl⟩ : ∃ c, a = -c := ⟨-a, by omega⟩
    have hc : 0 ≤ c := by omega
    rw [Int.neg_tdiv, Int.tdiv_eq_ediv_of_nonneg hc]
    have h1 := Int.ediv_nonneg hc (Int.le_of_lt hb)
    have h2 := Int.ediv_le_self b hc
    omega
/-- What is divided, and what is left: towards 0. -/
theorem quo_is {a n z : Int} (h : IntIs .i64 (a.tdiv n) z) (hn : 0 < n) (h0 : -9223372036854775807 ≤ a) (h1 : a ≤ 9223372036854775807) : z = a.tdiv n := h.i64 (by
  have := td_abs a hn
  omega)
theorem quo_pos {a n z : Int} (h : IntIs .i64 (a.tdiv n) z) (hn : 0 < n) (h0 : 0 ≤ a) (h1 : a ≤ 9223372036854775807) : z = a / n := by
  rw [quo_is h hn (by omega) h1, Int.tdiv_eq_ediv_of_nonneg h0]
theorem td_spec (a : Int) {n : Int} (hn : 0 < n) : n * a.tdiv n + a.tmod n = a ∧ -n < a.tmod n ∧ a.tmod n < n ∧ (0 ≤ a → 0 ≤ a.tdiv n ∧ 0 ≤ a.tmod n) ∧ (a ≤ 0 → a.tdiv n ≤ 0 ∧ a.tmod n ≤ 0) := by
  have e : n * a.tdiv n + a.tmod n = a := Int.mul_tdiv_add_tmod a n
  refine ⟨e, Int.lt_tmod_of_pos a hn, Int.tmod_lt_of_pos a hn, fun h => ?_, fun h => ?_⟩
  · exact ⟨Int.tdiv_nonneg h (Int.le_of_lt hn), Int.tmod_nonneg n h⟩
  · obtain ⟨c, rfl⟩ : ∃ c, a = -c := ⟨-a, by omega⟩
    have h1 := Int.tdiv_nonneg (a := c) (by omega) (Int.le_of_lt hn)
    have h2 := Int.tmod_nonneg n (a := c) (by omega)
    rw [Int.neg_tdiv, Int.neg_tmod]
    omega
theorem fl_up {a b q r : Int} (hb : 0 < b) (hq : q = a.tdiv b) (hr : r = a.tmod b) : (r < 0 → a / b = q - 1) ∧ (¬ r < 0 → a / b = q) := by
  obtain ⟨h1, h2, h3, _⟩ := td_spec a hb
  rw [← hq, ← hr] at h1
  rw [← hr] at h2 h3
  constructor
  · intro h
    refine ((Int.ediv_emod_unique (r := r + b) hb).2 ⟨?_, by omega, by omega⟩).1
    rw [Int.mul_sub, Int.mul_one]
    omega
  · intro h
    exact ((Int.ediv_emod_unique (r := r) hb).2 ⟨by omega, by omega, by omega⟩).1
theorem tm0 {p z n : Int} (h : z = p.tmod n) (hn : 0 < n) : z = 0 ↔ p % n = 0 := by
  have h3 : n ∣ p ↔ p % n = 0 := Int.dvd_iff_emod_eq_zero
  have h1 := Int.emod_nonneg p (show n ≠ 0 by omega)
  have h2 := Int.emod_lt_of_pos p hn
  rw [h, Int.tmod_eq_emod]
  generalize p % n = e at *
  simp only [h3]
  split <;> omega

def leapP (y : Int) : Prop := y % 4 = 0 ∧ (y % 100 ≠ 0 ∨ y % 400 = 0)
instance (y : Int) : Decidable (leapP y) := inferInstanceAs (Decidable (_ ∧ _))
def lenI (y m : Int) : Int := if m = 1 ∨ m = 3 ∨ m = 5 ∨ m = 7 ∨ m = 8 ∨ m = 10 ∨ m = 12 then 31 else if m = 4 ∨ m = 6 ∨ m = 9 ∨ m = 11 then 30 else if m = 2 then (if leapP y then 29 else 28) else 0
theorem lenI_le (y m : Int) : 0 ≤ lenI y m ∧ lenI y m ≤ 31 := by
  unfold lenI
  split
  · decide
  · split
    · decide
    · split
      · split <;> decide
      · decide
theorem lenI_pos {y m : Int} (h : 1 ≤ lenI y m) : 1 ≤ m ∧ m ≤ 12 := by
  unfold lenI at h
  split at h
  · omega
  · split at h
    · omega
    · split at h
      · omega
      · omega

theorem c_Leap {y : Int} : HasC Tryz.prog 201 [.v (.int .i64 y)] (fun r => ∃ b, r = .v (.bool b) ∧ (b = true ↔ leapP y)) := by
 refine HasC.of [] (fn := Tryz.f201) tyOk mixed (fun args w => Tryz.call201 args w) Tryz.func201 rfl (by kernel_rfl) (Nat.le_of_ble_eq_true rfl) (⟨_, decide (leapP y), rfl, by simp⟩) ?_
 refine vc_seqr rfl (iQ 1 (iE 16 [(0, Ia y), (2, Ba false)] [] ?_))
 refine vc_seqr rfl (iQ 1 (iB .rem 3 (.int .i64 y) (.int .i64 4) (some 4) ?_))
 refine And.intro (by omega) ?_
 intro z4 hz4
 have h4 := tm0 (n := 4) hz4 (by decide)
 refine iB .eql 3 (.int .i64 z4) (.int .i64 0) (some 5) ?_
 intro c5 hc5
 refine iQ 1 ?_
 cases c5
 ·replace hc5 := bf hc5
  refine iQ 10 (iE 16 [(2, Ba false)] [] ?_)
  refine vc_ret (iR (Bv false) ?_)
  exact ⟨_, rfl, ⟨fun h => (by cases h), fun h => absurd (h4.2 h.1) hc5⟩⟩
 ·replace hc5 := bt hc5
  refine iQ 1 (iB .rem 3 (.int .i64 y) (.int .i64 100) (some 8) ?_)
  refine And.intro (by omega) ?_
  intro z8 hz8
  have h8 := tm0 (n := 100) hz8 (by decide)
  refine iB .neq 3 (.int .i64 z8) (.int .i64 0) (some 9) ?_
  intro c9 hc9
  refine iQ 1 ?_
  cases c9
  ·replace hc9 := bf hc9
   refine iQ 1 (iB .rem 3 (.int .i64 y) (.int .i64 400) (some 12) ?_)
   refine And.intro (by omega) ?_
   intro z12 hz12
   have h12 := tm0 (n := 400) hz12 (by decide)
   refine iB .eql 3 (.int .i64 z12) (.int .i64 0) (some 13) ?_
   intro c13 hc13
   refine iQ 3 (iE 16 [(2, Ba c13)] [] ?_)
   refine vc_ret (iR (Bv c13) ?_)
   exact ⟨_, rfl, by rw [hc13, h12]; unfold leapP; omega⟩
  ·replace hc9 := bt hc9
   refine iQ 6 (iE 16 [(2, Ba true)] [] ?_)
   refine vc_ret (iR (Bv true) ?_)
   exact ⟨_, rfl, ⟨fun _ => ⟨h4.1 hc5, .inl fun k => hc9 (h8.2 k)⟩, fun _ => rfl⟩⟩

set_option maxHeartbeats 1600000 in
theorem c_Length {y m : Int} : HasC Tryz.prog 183 [.v (.int .i64 y), .v (.int .i64 m)] (fun r => r = .v (.int .i64 (lenI y m))) := by
 refine HasC.of [] (fn := Tryz.f183) tyOk mixed (fun args w => Tryz.call183 args w) Tryz.func183 rfl (by kernel_rfl) (Nat.le_of_ble_eq_true rfl) (⟨_, rfl⟩) ?_
 refine vc_seqr rfl (iQ 1 (iE 23 [(0, Ia y), (1, Ia m), (4, Ia 0)] [] ?_))
 refine vc_seq (vc_seqr rfl (iQ 1 (iE 23 [(0, Ia y), (4, Ia 0), (5, Ia m)] [] ?_)))
 refine vc_block (vc_seq (vc_seqr rfl (iB .eql 3 (.int .i64 m) (.int .i64 1) (some 7) ?_)))
 intro c7 hc7
 refine iQ 1 (iE 23 [(0, Ia y), (4, Ia 0), (5, Ia m), (6, Ba c7)] [] ?_)
 cases c7
 ·replace hc7 := bf hc7
  refine iF (vc_seqr rfl (iB .eql 3 (.int .i64 m) (.int .i64 3) (some 8) ?_))
  intro c8 hc8
  refine iQ 1 (iE 23 [(0, Ia y), (4, Ia 0), (5, Ia m), (6, Ba c8)] [] ?_)
  cases c8
  ·replace hc8 := bf hc8
   refine iF (vc_seqr rfl (iB .eql 3 (.int .i64 m) (.int .i64 5) (some 9) ?_))
   intro c9 hc9
   refine iQ 1 (iE 23 [(0, Ia y), (4, Ia 0), (5, Ia m), (6, Ba c9)] [] ?_)
   cases c9
   ·replace hc9 := bf hc9
    refine iF (vc_seqr rfl (iB .eql 3 (.int .i64 m) (.int .i64 7) (some 10) ?_))
    intro c10 hc10
    refine iQ 1 (iE 23 [(0, Ia y), (4, Ia 0), (5, Ia m), (6, Ba c10)] [] ?_)
    cases c10
    ·replace hc10 := bf hc10
     refine iF (vc_seqr rfl (iB .eql 3 (.int .i64 m) (.int .i64 8) (some 11) ?_))
     intro c11 hc11
     refine iQ 1 (iE 23 [(0, Ia y), (4, Ia 0), (5, Ia m), (6, Ba c11)] [] ?_)
     cases c11
     ·replace hc11 := bf hc11
      refine iF (vc_seqr rfl (iB .eql 3 (.int .i64 m) (.int .i64 10) (some 12) ?_))
      intro c12 hc12
      refine iQ 1 (iE 23 [(0, Ia y), (4, Ia 0), (5, Ia m), (6, Ba c12)] [] ?_)
      cases c12
      ·replace hc12 := bf hc12
       refine iF (vc_reg rfl (iB .eql 3 (.int .i64 m) (.int .i64 12) (some 13) ?_))
       intro c13 hc13
       refine iQ 1 (iE 23 [(0, Ia y), (4, Ia 0), (5, Ia m), (6, Ba c13)] [] ?_)
       refine seq_n ?_
       cases c13
       ·replace hc13 := bf hc13
        refine iF (vc_seq (vc_seqr rfl (iB .eql 3 (.int .i64 m) (.int .i64 4) (some 15) ?_)))
        intro c15 hc15
        refine iQ 1 (iE 23 [(0, Ia y), (4, Ia 0), (5, Ia m), (6, Ba false), (14, Ba c15)] [] ?_)
        cases c15
        ·replace hc15 := bf hc15
         refine iF (vc_seqr rfl (iB .eql 3 (.int .i64 m) (.int .i64 6) (some 16) ?_))
         intro c16 hc16
         refine iQ 1 (iE 23 [(0, Ia y), (4, Ia 0), (5, Ia m), (6, Ba false), (14, Ba c16)] [] ?_)
         cases c16
         ·replace hc16 := bf hc16
          refine iF (vc_seqr rfl (iB .eql 3 (.int .i64 m) (.int .i64 9) (some 17) ?_))
          intro c17 hc17
          refine iQ 1 (iE 23 [(0, Ia y), (4, Ia 0), (5, Ia m), (6, Ba false), (14, Ba c17)] [] ?_)
          cases c17
          ·replace hc17 := bf hc17
           refine iF (vc_reg rfl (iB .eql 3 (.int .i64 m) (.int .i64 11) (some 18) ?_))
           intro c18 hc18
           refine iQ 1 (iE 23 [(0, Ia y), (4, Ia 0), (5, Ia m), (6, Ba false), (14, Ba c18)] [] ?_)
           refine seq_n ?_
           cases c18
           ·replace hc18 := bf hc18
            refine iF (vc_seqr rfl (iB .eql 3 (.int .i64 m) (.int .i64 2) (some 20) ?_))
            intro c20 hc20
            refine iQ 1 (iE 23 [(0, Ia y), (4, Ia 0), (5, Ia m), (6, Ba false), (14, Ba false), (19, Ba c20)] [] ?_)
            cases c20
            ·replace hc20 := bf hc20
             refine iF (vc_skip (block_n (seq_n (vc_seqr rfl (iQ 1 (iE 23 [(0, Ia y), (4, Ia 0), (5, Ia m), (6, Ba false), (14, Ba false), (19, Ba false)] [] ?_))))))
             refine vc_ret (iR (Iv 0) ?_)
             rw [lenI, if_neg (by omega), if_neg (by omega), if_neg (by omega)]
            ·replace hc20 := bt hc20
             refine iT (vc_seq (vc_seqr rfl (iQ 1 (iC 201 [Iv y] (some 22) (c_Leap) ?_))))
             rintro _ ⟨lp, rfl, hlp⟩
             refine iE 23 [(4, Ia 0), (5, Ia m), (6, Ba false), (14, Ba false), (19, Ba true), (22, Ba lp)] [] ?_
             cases lp
             ·replace hlp := bf hlp
              refine iF (vc_skip (seq_n (vc_seqr rfl (iQ 1 (iE 23 [(4, Ia 28), (5, Ia m), (6, Ba false), (14, Ba false), (19, Ba true), (22, Ba false)] [] ?_)))))
              refine vc_ret (block_r (seq_r (iR (Iv 28) ?_)))
              rw [lenI, if_neg (by omega), if_neg (by omega), if_pos (by omega), if_neg hlp]
             ·replace hlp := bt hlp
              refine iT (vc_seqr rfl (iQ 1 (iE 23 [(4, Ia 29), (5, Ia m), (6, Ba false), (14, Ba false), (19, Ba true), (22, Ba true)] [] ?_)))
              refine vc_ret (seq_r (block_r (seq_r (iR (Iv 29) ?_))))
              rw [lenI, if_neg (by omega), if_neg (by omega), if_pos (by omega), if_pos hlp]
           ·replace hc18 := bt hc18
            refine iT (vc_seqr rfl (iQ 1 (iE 23 [(0, Ia y), (4, Ia 30), (5, Ia m), (6, Ba false), (14, Ba true)] [] ?_)))
            refine vc_ret (block_r (seq_r (iR (Iv 30) ?_)))
            rw [lenI, if_neg (by omega), if_pos (by omega)]
          ·replace hc17 := bt hc17
           refine iT (vc_skip (seq_n (iT (vc_seqr rfl (iQ 1 (iE 23 [(0, Ia y), (4, Ia 30), (5, Ia m), (6, Ba false), (14, Ba true)] [] ?_))))))
           refine vc_ret (block_r (seq_r (iR (Iv 30) ?_)))
           rw [lenI, if_neg (by omega), if_pos (by omega)]
         ·replace hc16 := bt hc16
          refine iT (vc_skip (seq_n (iT (vc_seqr rfl (iQ 1 (iE 23 [(0, Ia y), (4, Ia 30), (5, Ia m), (6, Ba false), (14, Ba true)] [] ?_))))))
          refine vc_ret (block_r (seq_r (iR (Iv 30) ?_)))
          rw [lenI, if_neg (by omega), if_pos (by omega)]
        ·replace hc15 := bt hc15
         refine iT (vc_skip (seq_n (iT (vc_seqr rfl (iQ 1 (iE 23 [(0, Ia y), (4, Ia 30), (5, Ia m), (6, Ba false), (14, Ba true)] [] ?_))))))
         refine vc_ret (block_r (seq_r (iR (Iv 30) ?_)))
         rw [lenI, if_neg (by omega), if_pos (by omega)]
       ·replace hc13 := bt hc13
        refine iT (vc_seqr rfl (iQ 1 (iE 23 [(0, Ia y), (4, Ia 31), (5, Ia m), (6, Ba true)] [] ?_)))
        refine vc_ret (block_r (seq_r (iR (Iv 31) ?_)))
        rw [lenI, if_pos (by omega)]
      ·replace hc12 := bt hc12
       refine iT (vc_skip (seq_n (iT (vc_seqr rfl (iQ 1 (iE 23 [(0, Ia y), (4, Ia 31), (5, Ia m), (6, Ba true)] [] ?_))))))
       refine vc_ret (block_r (seq_r (iR (Iv 31) ?_)))
       rw [lenI, if_pos (by omega)]
     ·replace hc11 := bt hc11
      refine iT (vc_skip (seq_n (iT (vc_seqr rfl (iQ 1 (iE 23 [(0, Ia y), (4, Ia 31), (5, Ia m), (6, Ba true)] [] ?_))))))
      refine vc_ret (block_r (seq_r (iR (Iv 31) ?_)))
      rw [lenI, if_pos (by omega)]
    ·replace hc10 := bt hc10
     refine iT (vc_skip (seq_n (iT (vc_seqr rfl (iQ 1 (iE 23 [(0, Ia y), (4, Ia 31), (5, Ia m), (6, Ba true)] [] ?_))))))
     refine vc_ret (block_r (seq_r (iR (Iv 31) ?_)))
     rw [lenI, if_pos (by omega)]
   ·replace hc9 := bt hc9
    refine iT (vc_skip (seq_n (iT (vc_seqr rfl (iQ 1 (iE 23 [(0, Ia y), (4, Ia 31), (5, Ia m), (6, Ba true)] [] ?_))))))
    refine vc_ret (block_r (seq_r (iR (Iv 31) ?_)))
    rw [lenI, if_pos (by omega)]
  ·replace hc8 := bt hc8
   refine iT (vc_skip (seq_n (iT (vc_seqr rfl (iQ 1 (iE 23 [(0, Ia y), (4, Ia 31), (5, Ia m), (6, Ba true)] [] ?_))))))
   refine vc_ret (block_r (seq_r (iR (Iv 31) ?_)))
   rw [lenI, if_pos (by omega)]
 ·replace hc7 := bt hc7
  refine iT (vc_skip (seq_n (iT (vc_seqr rfl (iQ 1 (iE 23 [(0, Ia y), (4, Ia 31), (5, Ia m), (6, Ba true)] [] ?_))))))
  refine vc_ret (block_r (seq_r (iR (Iv 31) ?_)))
  rw [lenI, if_pos (by omega)]

def mayD (y m d : Int) : Prop := -999999999 ≤ y ∧ y ≤ 999999999 ∧ 1 ≤ d ∧ d ≤ lenI y m
instance (y m d : Int) : Decidable (mayD y m d) := inferInstanceAs (Decidable (_ ∧ _))

theorem c_DateMay {y m d : Int} : HasC Tryz.prog 154 [.agg [.v (.int .i64 y), .v (.int .i64 m), .v (.int .i64 d)]] (fun r => ∃ b, r = .v (.bool b) ∧ (b = true ↔ mayD y m d)) := by
 refine HasC.of [] (fn := Tryz.f154) tyOk mixed (fun args w => Tryz.call154 args w) Tryz.func154 rfl (by kernel_rfl) (Nat.le_of_ble_eq_true rfl) (⟨_, decide (mayD y m d), rfl, by simp⟩) ?_
 refine vc_seqr rfl (iQ 2 (iE 26 [(1, .p 1 0), (2, Ba false)] [(1, [Iv y, Iv m, Iv d])] ?_))
 refine vc_seqr rfl (iQ 2 (iB .geq 3 (.int .i64 y) (.int .i64 (-999999999)) (some 5) ?_))
 intro c5 hc5
 refine iQ 1 ?_
 cases c5
 ·replace hc5 := bf hc5
  refine iQ 20 (iE 26 [(2, Ba false)] [] ?_)
  refine vc_ret (iR (Bv false) ?_)
  exact ⟨_, rfl, ⟨fun h => (by cases h), fun h => by unfold mayD at h; omega⟩⟩
 ·replace hc5 := bt hc5
  refine iQ 2 (iB .leq 3 (.int .i64 y) (.int .i64 999999999) (some 9) ?_)
  intro c9 hc9
  refine iQ 2 ?_
  cases c9
  ·replace hc9 := bf hc9
   refine iQ 15 (iE 26 [(2, Ba false)] [] ?_)
   refine vc_ret (iR (Bv false) ?_)
   exact ⟨_, rfl, ⟨fun h => (by cases h), fun h => by unfold mayD at h; omega⟩⟩
  ·replace hc9 := bt hc9
   refine iQ 2 (iB .geq 3 (.int .i64 d) (.int .i64 1) (some 14) ?_)
   intro c14 hc14
   refine iQ 2 ?_
   cases c14
   ·replace hc14 := bf hc14
    refine iQ 10 (iE 26 [(2, Ba false)] [] ?_)
    refine vc_ret (iR (Bv false) ?_)
    exact ⟨_, rfl, ⟨fun h => (by cases h), fun h => by unfold mayD at h; omega⟩⟩
   ·replace hc14 := bt hc14
    refine iQ 6 (iC 183 [Iv y, Iv m] (some 23) (c_Length) ?_)
    rintro _ rfl
    refine iB .leq 3 (.int .i64 d) (.int .i64 (lenI y m)) (some 24) ?_
    intro c24 hc24
    refine iQ 2 (iE 26 [(2, Ba c24)] [] ?_)
    refine vc_ret (iR (Bv c24) ?_)
    exact ⟨_, rfl, by rw [hc24]; unfold mayD; omega⟩

theorem c_floor {a b : Int} (hb : 0 < b) (h0 : -9223372036854775000 ≤ a) (h1 : a ≤ 9223372036854775000) : HasC Tryz.prog 202 [.v (.int .i64 a), .v (.int .i64 b)] (fun r => r = .v (.int .i64 (a / b))) := by
 refine HasC.of [] (fn := Tryz.f202) tyOk mixed (fun args w => Tryz.call202 args w) Tryz.func202 rfl (by kernel_rfl) (Nat.le_of_ble_eq_true rfl) (⟨_, rfl⟩) ?_
 refine vc_seqr rfl (iQ 1 (iE 16 [(0, Ia a), (1, Ia b), (4, Ia 0)] [] ?_))
 refine vc_seqr rfl (iQ 2 (iB .quo 3 (.int .i64 a) (.int .i64 b) (some 8) ?_))
 refine And.intro (by omega) ?_
 intro z8 hz8
 have h8 := quo_is hz8 hb (by omega) (by omega)
 refine iQ 1 (iE 16 [(0, Ia a), (1, Ia b), (4, Ia 0), (5, Ia z8)] [] ?_)
 refine vc_seq (vc_seqr rfl (iQ 2 (iB .rem 3 (.int .i64 a) (.int .i64 b) (some 11) ?_)))
 refine And.intro (by omega) ?_
 intro z11 hz11
 have h11 := fl_up hb h8 hz11
 have h9 := td_abs a hb
 refine iB .lss 3 (.int .i64 z11) (.int .i64 0) (some 12) ?_
 intro c12 hc12
 refine iE 16 [(0, Ia a), (1, Ia b), (4, Ia 0), (5, Ia z8), (12, Ba c12)] [] ?_
 cases c12
 ·replace hc12 := bf hc12
  refine iF (vc_skip (seq_n (vc_seqr rfl (iQ 2 (iE 16 [(0, Ia a), (1, Ia b), (4, Ia z8), (5, Ia z8), (12, Ba false)] [] ?_)))))
  refine vc_ret (iR (Iv z8) ?_)
  rw [h11.2 hc12]
 ·replace hc12 := bt hc12
  refine iT (vc_reg rfl (iQ 1 (iB .sub 3 (.int .i64 z8) (.int .i64 1) (some 14) ?_)))
  intro z14 hz14
  try replace hz14 := hz14.i64 (by omega)
  refine iQ 1 (iE 16 [(0, Ia a), (1, Ia b), (4, Ia 0), (5, Ia z14), (12, Ba true)] [] ?_)
  refine seq_n (vc_seqr rfl (iQ 2 (iE 16 [(0, Ia a), (1, Ia b), (4, Ia z14), (5, Ia z14), (12, Ba true)] [] ?_)))
  refine vc_ret (iR (Iv z14) ?_)
  rw [h11.1 hc12, ← hz14]

/-- The number of a day, of a year that begins in March. -/
def numJ (y m d : Int) : Int := 146097 * (y / 400) + 365 * (y - 400 * (y / 400)) + (y - 400 * (y / 400)) / 4 - (y - 400 * (y / 400)) / 100 + ((153 * (m - 3) + 2) / 5 + d - 1) - 719468
def numI (y m d : Int) : Int := if m ≤ 2 then numJ (y - 1) (m + 12) d else numJ y m d
theorem mayD_rng {y m d : Int} (h : mayD y m d) : -999999999 ≤ y ∧ y ≤ 999999999 ∧ 1 ≤ m ∧ m ≤ 12 ∧ 1 ≤ d ∧ d ≤ 31 := by
  obtain ⟨h1, h2, h3, h4⟩ := h
  have h5 := lenI_pos (show 1 ≤ lenI y m by omega)
  have h6 := lenI_le y m
  omega
theorem numI_rng {y m d : Int} (h : mayD y m d) : -366000000000 ≤ numI y m d ∧ numI y m d ≤ 366000000000 := by
  have h1 := mayD_rng h
  unfold numI numJ
  split <;> omega

set_option maxHeartbeats 1600000 in
theorem c_Number {y m d : Int} (hmay : mayD y m d) : HasC Tryz.prog 191 [.agg [.v (.int .i64 y), .v (.int .i64 m), .v (.int .i64 d)]] (fun r => r = .tup [.v (.int .i64 (numI y m d)), .v (.bool true)]) := by
 refine HasC.of [] (fn := Tryz.f191) tyOk mixed (fun args w => Tryz.call191 args w) Tryz.func191 rfl (by kernel_rfl) (Nat.le_of_ble_eq_true rfl) (⟨_, rfl⟩) ?_
 have hr := mayD_rng hmay
 refine vc_seqr rfl (iQ 3 (iE 51 [(1, .p 1 0), (2, Ia 0), (3, Ba false)] [(1, [Iv y, Iv m, Iv d])] ?_))
 refine vc_seq (vc_seqr rfl (iQ 1 (iC 154 [.agg [Iv y, Iv m, Iv d]] (some 10) (c_DateMay) ?_)))
 rintro _ ⟨b, rfl, hb⟩
 refine iU .not (.bool b) (some 11) ?_
 refine all_false ((by rw [hb.2 hmay]; simp)) ?_
 refine iE 51 [(1, .p 1 0), (2, Ia 0), (3, Ba false), (11, Ba false)] [(1, [Iv y, Iv m, Iv d])] ?_
 refine iF (vc_skip (seq_n (vc_seqr rfl (iQ 6 (iE 51 [(1, .p 1 0), (2, Ia 0), (3, Ba false), (4, Ia y), (5, Ia m), (11, Ba false)] [(1, [Iv y, Iv m, Iv d])] ?_)))))
 refine vc_mid 51 (fun (vcx : Int × Int × Bool) => match vcx with | (y1, m1, vb17) => [(1, .p 1 0), (2, Ia 0), (3, Ba false), (4, Ia y1), (5, Ia m1), (11, Ba false), (17, Ba vb17)]) (fun (vcx : Int × Int × Bool) => match vcx with | (y1, m1, vb17) => [(1, [Iv y, Iv m, Iv d])]) (fun (vcx : Int × Int × Bool) => match vcx with | (y1, m1, vb17) => (m ≤ 2 ∧ y1 = y - 1 ∧ m1 = m + 12) ∨ (2 < m ∧ y1 = y ∧ m1 = m)) ?_ ?_
 ·rintro ⟨y1, m1, vb17⟩ hinv
  simp only at hinv
  refine vc_seqr rfl (iQ 1 (iC 202 [Iv y1, Iv 400] (some 23) (c_floor (by decide) (by omega) (by omega)) ?_))
  rintro _ rfl
  refine iQ 1 (iE 51 [(1, .p 1 0), (2, Ia 0), (3, Ba false), (4, Ia y1), (5, Ia m1), (6, Ia (y1 / 400)), (11, Ba false), (17, Ba vb17)] [(1, [Iv y, Iv m, Iv d])] ?_)
  refine vc_seqr rfl (iQ 2 (iB .mul 3 (.int .i64 400) (.int .i64 (y1 / 400)) (some 26) ?_))
  intro z26 hz26
  try replace hz26 := hz26.i64 (by omega)
  refine iB .sub 3 (.int .i64 y1) (.int .i64 z26) (some 27) ?_
  intro z27 hz27
  try replace hz27 := hz27.i64 (by omega)
  refine iQ 1 (iE 51 [(1, .p 1 0), (2, Ia 0), (3, Ba false), (4, Ia y1), (5, Ia m1), (6, Ia (y1 / 400)), (7, Ia z27), (11, Ba false), (17, Ba vb17)] [(1, [Iv y, Iv m, Iv d])] ?_)
  refine vc_seqr rfl (iQ 1 (iB .sub 3 (.int .i64 m1) (.int .i64 3) (some 29) ?_))
  intro z29 hz29
  try replace hz29 := hz29.i64 (by omega)
  refine iB .mul 3 (.int .i64 153) (.int .i64 z29) (some 30) ?_
  intro z30 hz30
  try replace hz30 := hz30.i64 (by omega)
  refine iB .add 3 (.int .i64 z30) (.int .i64 2) (some 31) ?_
  intro z31 hz31
  try replace hz31 := hz31.i64 (by omega)
  refine iB .quo 3 (.int .i64 z31) (.int .i64 5) (some 32) ?_
  refine And.intro (by omega) ?_
  intro z32 hz32
  have h32 := quo_pos hz32 (by decide) (by omega) (by omega)
  refine iQ 2 (iB .add 3 (.int .i64 z32) (.int .i64 d) (some 35) ?_)
  intro z35 hz35
  try replace hz35 := hz35.i64 (by omega)
  refine iB .sub 3 (.int .i64 z35) (.int .i64 1) (some 36) ?_
  intro z36 hz36
  try replace hz36 := hz36.i64 (by omega)
  refine iQ 1 (iE 51 [(1, .p 1 0), (2, Ia 0), (3, Ba false), (4, Ia y1), (5, Ia m1), (6, Ia (y1 / 400)), (7, Ia z27), (8, Ia z36), (11, Ba false), (17, Ba vb17)] [(1, [Iv y, Iv m, Iv d])] ?_)
  refine vc_seqr rfl (iQ 1 (iB .mul 3 (.int .i64 146097) (.int .i64 (y1 / 400)) (some 38) ?_))
  intro z38 hz38
  try replace hz38 := hz38.i64 (by omega)
  refine iQ 1 (iB .mul 3 (.int .i64 365) (.int .i64 z27) (some 40) ?_)
  intro z40 hz40
  try replace hz40 := hz40.i64 (by omega)
  refine iB .add 3 (.int .i64 z38) (.int .i64 z40) (some 41) ?_
  intro z41 hz41
  try replace hz41 := hz41.i64 (by omega)
  refine iQ 1 (iB .quo 3 (.int .i64 z27) (.int .i64 4) (some 43) ?_)
  refine And.intro (by omega) ?_
  intro z43 hz43
  have h43 := quo_pos hz43 (by decide) (by omega) (by omega)
  refine iB .add 3 (.int .i64 z41) (.int .i64 z43) (some 44) ?_
  intro z44 hz44
  try replace hz44 := hz44.i64 (by omega)
  refine iQ 1 (iB .quo 3 (.int .i64 z27) (.int .i64 100) (some 46) ?_)
  refine And.intro (by omega) ?_
  intro z46 hz46
  have h46 := quo_pos hz46 (by decide) (by omega) (by omega)
  have e1 : numI y m d = numJ y1 m1 d := by unfold numI; rcases hinv with ⟨k1, k2, k3⟩ | ⟨k1, k2, k3⟩; rw [if_pos k1, k2, k3]; rw [if_neg (by omega), k2, k3]
  refine iB .sub 3 (.int .i64 z44) (.int .i64 z46) (some 47) ?_
  intro z47 hz47
  try replace hz47 := hz47.i64 (by omega)
  refine iQ 1 (iB .add 3 (.int .i64 z47) (.int .i64 z36) (some 49) ?_)
  intro z49 hz49
  try replace hz49 := hz49.i64 (by omega)
  refine iB .sub 3 (.int .i64 z49) (.int .i64 719468) (some 50) ?_
  intro z50 hz50
  try replace hz50 := hz50.i64 (by omega)
  refine iQ 2 (iE 51 [(1, .p 1 0), (2, Ia z50), (3, Ba true), (4, Ia y1), (5, Ia m1), (6, Ia (y1 / 400)), (11, Ba false), (17, Ba vb17)] [(1, [Iv y, Iv m, Iv d])] ?_)
  refine vc_ret (iS (Iv z50) (Bv true) [] ?_)
  rw [e1, show numJ y1 m1 d = z50 by unfold numJ; rw [show y1 - 400 * (y1 / 400) = z27 by omega]; omega]
 intro hmid
 refine vc_seqr rfl (iQ 1 (iB .leq 3 (.int .i64 m) (.int .i64 2) (some 17) ?_))
 intro c17 hc17
 refine iE 51 [(1, .p 1 0), (2, Ia 0), (3, Ba false), (4, Ia y), (5, Ia m), (11, Ba false), (17, Ba c17)] [(1, [Iv y, Iv m, Iv d])] ?_
 cases c17
 ·replace hc17 := bf hc17
  refine iF (vc_skip ?_)
  refine mid_n hmid (y, m, false) (by omega) (by kernel_rfl)
 ·replace hc17 := bt hc17
  refine iT (vc_reg rfl (iQ 1 (iB .sub 3 (.int .i64 y) (.int .i64 1) (some 19) ?_)))
  intro z19 hz19
  try replace hz19 := hz19.i64 (by omega)
  refine iQ 1 (iB .add 3 (.int .i64 m) (.int .i64 12) (some 21) ?_)
  intro z21 hz21
  try replace hz21 := hz21.i64 (by omega)
  refine iQ 2 (iE 51 [(1, .p 1 0), (2, Ia 0), (3, Ba false), (4, Ia z19), (5, Ia z21), (11, Ba false), (17, Ba true)] [(1, [Iv y, Iv m, Iv d])] ?_)
  refine mid_n hmid (z19, z21, true) (by omega) (by kernel_rfl)

open Go.RowKit
set_option linter.unusedVariables false
set_option linter.unusedSimpArgs false
set_option maxRecDepth 100000


/-- The year that begins in March, and the month in it. -/
structure MarIs (y m y1 m1 : Int) : Prop where
  h : (m ≤ 2 ∧ y1 = y - 1 ∧ m1 = m + 12) ∨ (2 < m ∧ y1 = y ∧ m1 = m)
def pick3 (k : Nat) (a b c : Int) : Int := if k = 0 then a else if k = 1 then b else c
def ltD (y m d y' m' d' : Int) : Prop := y < y' ∨ (y = y' ∧ (m < m' ∨ (m = m' ∧ d < d')))
theorem pick_cmp {k : Nat} {y m d y' m' d' : Int} (hk : k < 3) (hi : ∀ j, j < k → pick3 j y m d = pick3 j y' m' d') (h : pick3 k y m d < pick3 k y' m' d') : ltD y m d y' m' d' ∧ ¬ ltD y' m' d' y m d := by
  have h0 := hi 0
  have h1 := hi 1
  unfold pick3 at h h0 h1
  unfold ltD
  simp at h0 h1
  split at h
  · omega
  · split at h
    · have := h0 (by omega)
      omega
    · have := h0 (by omega)
      have := h1 (by omega)
      omega
theorem pick_idx {k : Nat} {y m d y' m' d' : Int} (hk : k < 3) : (([.v (.int .i64 y), .v (.int .i64 y'), .v (.int .i64 m), .v (.int .i64 m'), .v (.int .i64 d), .v (.int .i64 d')] : List DV).drop ((k : Int).toNat * 2)).take 2 = [.v (.int .i64 (pick3 k y m d)), .v (.int .i64 (pick3 k y' m' d'))] := by
  match k, hk with
  | 0, _ => rfl
  | 1, _ => rfl
  | 2, _ => rfl
theorem pick_more {k : Nat} {y m d y' m' d' : Int} (hi : ∀ j, j < k → pick3 j y m d = pick3 j y' m' d') (h : pick3 k y m d = pick3 k y' m' d') : ∀ j, j < k + 1 → pick3 j y m d = pick3 j y' m' d' := fun j hj => by
  rcases Nat.lt_or_ge j k with l | l
  · exact hi j l
  · rw [show j = k by omega]
    exact h
theorem pick_eq {y m d y' m' d' : Int} (hi : ∀ j, j < 3 → pick3 j y m d = pick3 j y' m' d') : ¬ ltD y m d y' m' d' ∧ ¬ ltD y' m' d' y m d := by
  have h0 : y = y' := hi 0 (by decide)
  have h1 : m = m' := hi 1 (by decide)
  have h2 : d = d' := hi 2 (by decide)
  unfold ltD
  omega

set_option maxHeartbeats 1600000 in
theorem c_dayCmp1 {y m d y' m' d' : Int} : HasC Tryz.prog 73 [.agg [.v (.int .i64 y), .v (.int .i64 m), .v (.int .i64 d)], .agg [.v (.int .i64 y'), .v (.int .i64 m'), .v (.int .i64 d')]] (fun r => ∃ c, r = .v (.int .i64 c) ∧ (c < 0 ↔ ltD y m d y' m' d') ∧ (0 < c ↔ ltD y' m' d' y m d) ∧ -1 ≤ c ∧ c ≤ 1) := by
 refine HasC.of [] (fn := Tryz.f73) tyOk mixed (fun args w => Tryz.call73 args w) Tryz.func73 rfl (by kernel_rfl) (Nat.le_of_ble_eq_true rfl) (by
    by_cases h1 : ltD y m d y' m' d'
    · exact ⟨_, -1, rfl, ⟨fun _ => h1, fun _ => by decide⟩, ⟨fun h => absurd h (by decide), fun h => by unfold ltD at h h1; omega⟩, by decide, by decide⟩
    · by_cases h2 : ltD y' m' d' y m d
      · exact ⟨_, 1, rfl, ⟨fun h => absurd h (by decide), fun h => absurd h h1⟩, ⟨fun _ => h2, fun _ => by decide⟩, by decide, by decide⟩
      · exact ⟨_, 0, rfl, ⟨fun h => absurd h (by decide), fun h => absurd h h1⟩, ⟨fun h => absurd h (by decide), fun h => absurd h h2⟩, by decide, by decide⟩) ?_
 refine vc_seqr rfl (iQ 3 (iE 39 [(2, .p 2 0), (3, .p 3 0), (4, Ia 0)] [(2, [Iv y, Iv m, Iv d]), (3, [Iv y', Iv m', Iv d'])] ?_))
 refine vc_seq (vc_seqr rfl (iQ 18 (iE 39 [(4, Ia 0), (22, .w (.sl 3 [.v (.int .i64 y), .v (.int .i64 y'), .v (.int .i64 m), .v (.int .i64 m'), .v (.int .i64 d), .v (.int .i64 d')]) none), (23, Ia (((3 : Nat) : Int))), (24, Ia 0)] [] ?_)))
 refine vc_block (vc_loop 39 (fun (vcx : Nat) => match vcx with | k => [(4, Ia 0), (22, .w (.sl 3 [.v (.int .i64 y), .v (.int .i64 y'), .v (.int .i64 m), .v (.int .i64 m'), .v (.int .i64 d), .v (.int .i64 d')]) none), (23, Ia (((3 : Nat) : Int))), (24, Ia ((k : Int)))]) (fun (vcx : Nat) => match vcx with | k => []) (fun (vcx : Nat) => match vcx with | k => k ≤ 3 ∧ (∀ j, j < k → pick3 j y m d = pick3 j y' m' d')) (fun (vcx : Nat) => match vcx with | k => 3 - k) 0 (⟨by decide, fun j h => absurd h (Nat.not_lt_zero j)⟩) (by kernel_rfl) (by kernel_rfl) ?_)
 rintro k hinv
 simp only at hinv
 obtain ⟨hk3, hi⟩ := hinv
 refine vc_seqr rfl (iB .lss 3 (.int .i64 ((k : Int))) (.int .i64 (((3 : Nat) : Int))) (some 25) ?_)
 intro c25 hc25
 refine iE 39 [(4, Ia 0), (22, .w (.sl 3 [.v (.int .i64 y), .v (.int .i64 y'), .v (.int .i64 m), .v (.int .i64 m'), .v (.int .i64 d), .v (.int .i64 d')]) none), (23, Ia (((3 : Nat) : Int))), (24, Ia ((k : Int))), (25, Ba c25)] [] ?_
 refine vc_seq ?_
 cases c25
 ·replace hc25 := bf hc25
  have hk : k = 3 := by omega
  obtain ⟨q1, q2⟩ := pick_eq (hk ▸ hi)
  refine iF (vc_exit (seq_x (loop_x (block_x rfl (seq_n (vc_seqr rfl (iQ 1 (iE 39 [(4, Ia 0), (22, .w (.sl 3 [.v (.int .i64 y), .v (.int .i64 y'), .v (.int .i64 m), .v (.int .i64 m'), .v (.int .i64 d), .v (.int .i64 d')]) none), (23, Ia (((3 : Nat) : Int))), (24, Ia ((k : Int))), (25, Ba false)] [] ?_))))))))
  refine vc_ret (iR (Iv 0) ?_)
  exact ⟨_, rfl, ⟨fun h => absurd h (by decide), fun h => absurd h q1⟩, ⟨fun h => absurd h (by decide), fun h => absurd h q2⟩, by decide, by decide⟩
 ·replace hc25 := bt hc25
  have hk : k < 3 := by omega
  refine iT (vc_skip (seq_n (vc_seq (vc_block (vc_seqr rfl (vcI_idx (q := ((k : Int))) (n := 3) (cs := [.v (.int .i64 y), .v (.int .i64 y'), .v (.int .i64 m), .v (.int .i64 m'), .v (.int .i64 d), .v (.int .i64 d')]) (z := 2) (ds := [.v (.int .i64 (pick3 k y m d)), .v (.int .i64 (pick3 k y' m' d'))]) (dst := (some 26)) (by kernel_rfl) (by omega) (pick_idx hk) ?_))))))
  refine iQ 3 (iE 39 [(4, Ia 0), (6, .p 6 0), (22, .w (.sl 3 [.v (.int .i64 y), .v (.int .i64 y'), .v (.int .i64 m), .v (.int .i64 m'), .v (.int .i64 d), .v (.int .i64 d')]) none), (23, Ia (((3 : Nat) : Int))), (24, Ia ((k : Int))), (25, Ba true)] [(6, [Iv (pick3 k y m d), Iv (pick3 k y' m' d')])] ?_)
  refine vc_seq (vc_seqr rfl (iQ 4 (iB .lss 3 (.int .i64 (pick3 k y m d)) (.int .i64 (pick3 k y' m' d')) (some 32) ?_)))
  intro c32 hc32
  refine iE 39 [(4, Ia 0), (6, .p 6 0), (22, .w (.sl 3 [.v (.int .i64 y), .v (.int .i64 y'), .v (.int .i64 m), .v (.int .i64 m'), .v (.int .i64 d), .v (.int .i64 d')]) none), (23, Ia (((3 : Nat) : Int))), (24, Ia ((k : Int))), (25, Ba true), (32, Ba c32)] [(6, [Iv (pick3 k y m d), Iv (pick3 k y' m' d')])] ?_
  cases c32
  ·replace hc32 := bf hc32
   refine iF (vc_skip (seq_n (vc_seqr rfl (iQ 4 (iB .gtr 3 (.int .i64 (pick3 k y m d)) (.int .i64 (pick3 k y' m' d')) (some 37) ?_)))))
   intro c37 hc37
   refine iE 39 [(4, Ia 0), (6, .p 6 0), (22, .w (.sl 3 [.v (.int .i64 y), .v (.int .i64 y'), .v (.int .i64 m), .v (.int .i64 m'), .v (.int .i64 d), .v (.int .i64 d')]) none), (23, Ia (((3 : Nat) : Int))), (24, Ia ((k : Int))), (25, Ba true), (32, Ba false), (37, Ba c37)] [(6, [Iv (pick3 k y m d), Iv (pick3 k y' m' d')])] ?_
   cases c37
   ·replace hc37 := bf hc37
    refine iF (vc_skip (block_n (seq_n (vc_reg rfl (iB .add 3 (.int .i64 ((k : Int))) (.int .i64 1) (some 38) ?_)))))
    intro z38 hz38
    try replace hz38 := hz38.i64 (by omega)
    refine iQ 1 (iE 39 [(4, Ia 0), (6, .p 6 0), (22, .w (.sl 3 [.v (.int .i64 y), .v (.int .i64 y'), .v (.int .i64 m), .v (.int .i64 m'), .v (.int .i64 d), .v (.int .i64 d')]) none), (23, Ia (((3 : Nat) : Int))), (24, Ia z38), (25, Ba true), (32, Ba false), (37, Ba false)] [(6, [Iv (pick3 k y m d), Iv (pick3 k y' m' d')])] ?_)
    obtain rfl : z38 = ((k + 1 : Nat) : Int) := by omega
    refine loop_n (k + 1) (⟨by omega, pick_more hi (by omega)⟩) (by show 3 - (k + 1) < 3 - k; omega) (by kernel_rfl) (by kernel_rfl)
   ·replace hc37 := bt hc37
    obtain ⟨q1, q2⟩ := pick_cmp hk (fun j h => (hi j h).symm) hc37
    refine iT (vc_seqr rfl (iQ 1 (iE 39 [(4, Ia 1), (6, .p 6 0), (22, .w (.sl 3 [.v (.int .i64 y), .v (.int .i64 y'), .v (.int .i64 m), .v (.int .i64 m'), .v (.int .i64 d), .v (.int .i64 d')]) none), (23, Ia (((3 : Nat) : Int))), (24, Ia ((k : Int))), (25, Ba true), (32, Ba false), (37, Ba true)] [(6, [Iv (pick3 k y m d), Iv (pick3 k y' m' d')])] ?_)))
    refine vc_ret (block_r (seq_r (loop_r (block_r (seq_r (iR (Iv 1) ?_))))))
    exact ⟨_, rfl, ⟨fun h => absurd h (by decide), fun h => absurd h q2⟩, ⟨fun _ => q1, fun _ => by decide⟩, by decide, by decide⟩
  ·replace hc32 := bt hc32
   obtain ⟨q1, q2⟩ := pick_cmp hk hi hc32
   refine iT (vc_seqr rfl (iQ 1 (iE 39 [(4, Ia (-1)), (6, .p 6 0), (22, .w (.sl 3 [.v (.int .i64 y), .v (.int .i64 y'), .v (.int .i64 m), .v (.int .i64 m'), .v (.int .i64 d), .v (.int .i64 d')]) none), (23, Ia (((3 : Nat) : Int))), (24, Ia ((k : Int))), (25, Ba true), (32, Ba true)] [(6, [Iv (pick3 k y m d), Iv (pick3 k y' m' d')])] ?_)))
   refine vc_ret (seq_r (block_r (seq_r (loop_r (block_r (seq_r (iR (Iv (-1)) ?_)))))))
   exact ⟨_, rfl, ⟨fun _ => q1, fun _ => by decide⟩, ⟨fun h => absurd h (by decide), fun h => absurd h q2⟩, by decide, by decide⟩
open Go.RowKit
set_option linter.unusedVariables false
set_option linter.unusedSimpArgs false
set_option maxRecDepth 100000

-- what is told
def dateL (y m d : Int) : L8 := (if y < 0 then [45] else []) ++ padL (if y < 0 then -y else y) 4 ++ [45] ++ padL m 2 ++ [45] ++ padL d 2
def dateT (y m d : Int) : L8 := if mayD y m d then dateL y m d else []
def offL (o : Int) : L8 := padL (o / 3600) 2 ++ [58] ++ padL (o % 3600 / 60) 2 ++ (if o % 60 = 0 then [] else 58 :: padL (o % 60) 2)
def zoneL (z : Bool) (o : Int) : L8 := if z = false then [] else if o = 0 then [90] else if o < 0 then 45 :: offL (-o) else 43 :: offL o
def timeL (s : Int) (z : Bool) (o : Int) : L8 := padL (s / 3600) 2 ++ [58] ++ padL (s % 3600 / 60) 2 ++ [58] ++ padL (s % 60) 2 ++ zoneL z o
def mayT (s : Int) (z : Bool) (o : Int) : Prop := 0 ≤ s ∧ s < 86400 ∧ -64800 ≤ o ∧ o ≤ 64800 ∧ (z = true ∨ o = 0)
instance (s : Int) (z : Bool) (o : Int) : Decidable (mayT s z o) := inferInstanceAs (Decidable (_ ∧ _))
def timeT (s : Int) (z : Bool) (o : Int) : L8 := if mayT s z o then timeL s z o else []
def numS (lo hi : Nat) (l : L8) : Option Nat := if lo ≤ l.length ∧ l.length ≤ hi ∧ l.all isDg = true then some (nvL l) else none
def takesS (most : Nat) (l : L8) (c : UInt8) (t : Nat) : Option (Nat × L8) :=
  if l[ndg l]? = some c ∧ 1 ≤ ndg l ∧ ndg l ≤ most then some (nvL (l.take (ndg l)) * t, l.drop (ndg l + 1)) else none
def runA (most : Nat) : L8 → List (UInt8 × Nat) → Nat → Nat → Nat × L8 × Nat
  | l, [], n, k => (n, l, k)
  | l, (c, t) :: r, n, k => match takesS most l c t with
    | some (m, l') => runA most l' r (n + m) (k + 1)
    | none => runA most l r n k
def signedS (n : Nat) (neg : Bool) : Option Int := if 9007199254740992 < n then none else some (if neg then -(n : Int) else n)
/-- The text behind its sign, and whether there is one. -/
def unsS (l : L8) : L8 × Bool := if l.head? = some 45 then (l.tail, true) else (l, false)
def daysS (l : L8) : Option Int :=
  if (unsS l).1.head? ≠ some 80 then none else
  if (runA 12 (unsS l).1.tail [(68, 86400)] 0 0).2.1 = [] then (if (runA 12 (unsS l).1.tail [(68, 86400)] 0 0).2.2 = 0 then none else signedS (runA 12 (unsS l).1.tail [(68, 86400)] 0 0).1 (unsS l).2) else
  if (runA 12 (unsS l).1.tail [(68, 86400)] 0 0).2.1.head? ≠ some 84 then none else
  if (runA 12 (runA 12 (unsS l).1.tail [(68, 86400)] 0 0).2.1.tail [(72, 3600), (77, 60), (83, 1)] 0 0).2.1 ≠ [] ∨ (runA 12 (runA 12 (unsS l).1.tail [(68, 86400)] 0 0).2.1.tail [(72, 3600), (77, 60), (83, 1)] 0 0).2.2 = 0 then none else
  signedS ((runA 12 (unsS l).1.tail [(68, 86400)] 0 0).1 + (runA 12 (runA 12 (unsS l).1.tail [(68, 86400)] 0 0).2.1.tail [(72, 3600), (77, 60), (83, 1)] 0 0).1) (unsS l).2
def monthsS (l : L8) : Option Int :=
  if (unsS l).1.head? ≠ some 80 then none else
  if (runA 15 (unsS l).1.tail [(89, 12), (77, 1)] 0 0).2.1 ≠ [] ∨ (runA 15 (unsS l).1.tail [(89, 12), (77, 1)] 0 0).2.2 = 0 then none else
  signedS (runA 15 (unsS l).1.tail [(89, 12), (77, 1)] 0 0).1 (unsS l).2
/-- A number and whether there is one. -/
def optT : Option Int → DV
  | some n => .tup [.v (.int .i64 n), .v (.bool true)]
  | none => .tup [.v (.int .i64 0), .v (.bool false)]

-- digits
theorem takesS_lt {most : Nat} {l l' : L8} {c : UInt8} {t n : Nat} (h : takesS most l c t = some (n, l')) : n ≤ 10 ^ most * t ∧ l'.length < l.length := by
  unfold takesS at h
  split at h
  · rename_i hc
    simp only [Option.some.injEq, Prod.mk.injEq] at h
    obtain ⟨rfl, rfl⟩ := h
    have h1 := nvL_lt (k := most) (take_all (Nat.le_refl (ndg l))) (by rw [List.length_take]; omega)
    have h2 := (List.getElem?_eq_some_iff.1 hc.1).1
    exact ⟨Nat.mul_le_mul_right _ (by omega), by rw [List.length_drop]; omega⟩
  · cases h
open Go.RowKit
set_option linter.unusedVariables false
set_option linter.unusedSimpArgs false
set_option maxRecDepth 100000

theorem tx_lit (l : L8) : (⟨l.toArray⟩ : ByteArray) = tx l := rfl
def i64R (n : Int) : Prop := -9223372036854775808 ≤ n ∧ n ≤ 9223372036854775807
theorem tm_pos {a b z : Int} (h : z = a.tmod b) (h0 : 0 ≤ a) : z = a % b := by rw [h, Int.tmod_eq_emod_of_nonneg h0]
theorem padL_le {n : Int} {w : Nat} (h : i64R n) (hw : w ≤ 10) : (padL n w).length ≤ 21 := by
  rw [padL_len]
  have := itoa_len n h
  omega
theorem c_padded {n : Int} {w : Nat} (hn : i64R n) (hw : w ≤ 10) : HasC Tryz.prog 182 [.v (.int .i64 n), .v (.int .i64 ((w : Int)))] (fun y => y = .v (.string (tx (padL n w)))) := by
 refine HasC.of [] (fn := Tryz.f182) tyOk mixed (fun args w => Tryz.call182 args w) Tryz.func182 rfl (by kernel_rfl) (Nat.le_of_ble_eq_true rfl) (⟨_, rfl⟩) ?_
 refine vc_seqr rfl (iQ 1 (iE 15 [(0, Ia n), (1, Ia ((w : Int))), (4, .d (Sv (⟨#[]⟩)))] [] ?_))
 refine vc_seqr rfl (iQ 1 (iC 176 [Iv n] (some 7) (c_Itoa hn) ?_))
 rintro _ rfl
 have hi := itoa_len n hn
 refine iQ 1 (iE 15 [(1, Ia ((w : Int))), (4, .d (Sv (⟨#[]⟩))), (5, .d (Sv (tx (Lib.itoa n))))] [] ?_)
 refine vc_seq (vc_block (vc_loop 15 (fun (vcx : Nat) => match vcx with | k => [(1, Ia ((w : Int))), (4, .d (Sv (⟨#[]⟩))), (5, .d (Sv (tx (List.replicate k 48 ++ Lib.itoa n))))]) (fun (vcx : Nat) => match vcx with | k => []) (fun (vcx : Nat) => match vcx with | k => k ≤ w - (Lib.itoa n).length) (fun (vcx : Nat) => match vcx with | k => w - k) 0 (by omega) (by kernel_rfl) (by kernel_rfl) ?_))
 rintro k hinv
 simp only at hinv
 refine vc_seq (vc_seqr rfl (iQ 1 (iL .len [9] [.string (tx (List.replicate k 48 ++ Lib.itoa n))] (some 9) ?_)))
 intro n9 hn9
 have h9 : n9 = k + (Lib.itoa n).length := by rw [hn9]; simp
 refine iQ 1 (iB .lss 3 (.int .i64 ((n9 : Nat))) (.int .i64 ((w : Int))) (some 11) ?_)
 intro c11 hc11
 refine iE 15 [(1, Ia ((w : Int))), (4, .d (Sv (⟨#[]⟩))), (5, .d (Sv (tx (List.replicate k 48 ++ Lib.itoa n)))), (11, Ba c11)] [] ?_
 cases c11
 ·replace hc11 := bf hc11
  refine iF (vc_exit (seq_x (loop_x (block_x rfl (seq_n (vc_seqr rfl (iQ 2 (iE 15 [(1, Ia ((w : Int))), (4, .d (Sv (tx (List.replicate k 48 ++ Lib.itoa n)))), (5, .d (Sv (tx (List.replicate k 48 ++ Lib.itoa n)))), (11, Ba false)] [] ?_))))))))
  refine vc_ret (iR (Sv (tx (List.replicate k 48 ++ Lib.itoa n))) ?_)
  rw [padL, show w - (Lib.itoa n).length = k by omega]
 ·replace hc11 := bt hc11
  refine iT (vc_skip (seq_n (vc_block (vc_reg rfl (iQ 1 (iB .add 9 (.string (⟨#[48]⟩)) (.string (tx (List.replicate k 48 ++ Lib.itoa n))) (some 13) ?_))))))
  refine And.intro (sz_le (m := 1) (n := ((List.replicate k 48 ++ Lib.itoa n)).length) rfl rfl (by simp; omega)) ?_
  intro s13 hs13
  have hl13 : (s13 : ByteArray).size = 1 + ((List.replicate k 48 ++ Lib.itoa n)).length := sz_add hs13 rfl rfl
  refine iQ 1 (iE 15 [(1, Ia ((w : Int))), (4, .d (Sv (⟨#[]⟩))), (5, .d (Sv s13)), (11, Ba true)] [] ?_)
  refine block_n ?_
  obtain rfl : s13 = tx (List.replicate (k + 1) 48 ++ Lib.itoa n) := by rw [hs13]; exact tx_append [48] _
  refine loop_n (k + 1) (by omega) (by show w - (k + 1) < w - k; omega) (by kernel_rfl) (by kernel_rfl)

theorem c_lexDate {y m d : Int} : HasC Tryz.prog 153 [.agg [.v (.int .i64 y), .v (.int .i64 m), .v (.int .i64 d)]] (fun r => r = .v (.string (tx (dateT y m d)))) := by
 refine HasC.of [] (fn := Tryz.f153) tyOk mixed (fun args w => Tryz.call153 args w) Tryz.func153 rfl (by kernel_rfl) (Nat.le_of_ble_eq_true rfl) (⟨_, rfl⟩) ?_
 refine vc_seqr rfl (iQ 2 (iE 28 [(1, .p 1 0), (2, .d (Sv (⟨#[]⟩)))] [(1, [Iv y, Iv m, Iv d])] ?_))
 refine vc_seq (vc_seqr rfl (iQ 1 (iC 154 [.agg [Iv y, Iv m, Iv d]] (some 6) (c_DateMay) ?_)))
 rintro _ ⟨b, rfl, hb⟩
 refine iU .not (.bool b) (some 7) ?_
 intro c7 hc7
 refine iE 28 [(1, .p 1 0), (2, .d (Sv (⟨#[]⟩))), (7, Ba c7)] [(1, [Iv y, Iv m, Iv d])] ?_
 cases c7
 ·replace hc7 := bf hc7
  replace hb : mayD y m d := hb.1 (by simpa using hc7)
  have hm := lenI_pos (y := y) (m := m) (by unfold mayD at hb; omega)
  have hl := lenI_le y m
  have hy : -999999999 ≤ y ∧ y ≤ 999999999 ∧ 1 ≤ d ∧ d ≤ lenI y m := hb
  refine iF (vc_skip (seq_n (vc_seqr rfl (iQ 4 (iE 28 [(1, .p 1 0), (2, .d (Sv (⟨#[]⟩))), (3, .d (Sv (⟨#[]⟩))), (4, Ia y), (7, Ba false)] [(1, [Iv y, Iv m, Iv d])] ?_)))))
  refine vc_seq (vc_seqr rfl (iQ 1 (iB .lss 3 (.int .i64 y) (.int .i64 0) (some 11) ?_)))
  intro c11 hc11
  refine iE 28 [(1, .p 1 0), (2, .d (Sv (⟨#[]⟩))), (3, .d (Sv (⟨#[]⟩))), (4, Ia y), (7, Ba false), (11, Ba c11)] [(1, [Iv y, Iv m, Iv d])] ?_
  cases c11
  ·replace hc11 := bf hc11
   refine iF (vc_skip (seq_n (vc_seqr rfl (iQ 2 (iC 182 [Iv y, Iv 4] (some 16) (c_padded (n := y) (w := 4) ⟨by omega, by omega⟩ (by decide)) ?_)))))
   rintro _ rfl
   have p1 := padL_le (n := y) (w := 4) ⟨by omega, by omega⟩ (by decide)
   have p2 := padL_le (n := m) (w := 2) ⟨by omega, by omega⟩ (by decide)
   have p3 := padL_le (n := d) (w := 2) ⟨by omega, by omega⟩ (by decide)
   refine iB .add 9 (.string (⟨#[]⟩)) (.string (tx (padL y 4))) (some 17) ?_
   refine And.intro (sz_le (m := 0) (n := ((padL y 4)).length) rfl rfl (by omega)) ?_
   intro s17 hs17
   have hl17 : (s17 : ByteArray).size = 0 + ((padL y 4)).length := sz_add hs17 rfl rfl
   refine iB .add 9 (.string s17) (.string (⟨#[45]⟩)) (some 18) ?_
   refine And.intro (sz_le (m := (s17 : ByteArray).size) (n := 1) rfl rfl (by omega)) ?_
   intro s18 hs18
   have hl18 : (s18 : ByteArray).size = (s17 : ByteArray).size + 1 := sz_add hs18 rfl rfl
   refine iQ 2 (iC 182 [Iv m, Iv 2] (some 21) (c_padded (n := m) (w := 2) ⟨by omega, by omega⟩ (by decide)) ?_)
   rintro _ rfl
   refine iB .add 9 (.string s18) (.string (tx (padL m 2))) (some 22) ?_
   refine And.intro (sz_le (m := (s18 : ByteArray).size) (n := ((padL m 2)).length) rfl rfl (by omega)) ?_
   intro s22 hs22
   have hl22 : (s22 : ByteArray).size = (s18 : ByteArray).size + ((padL m 2)).length := sz_add hs22 rfl rfl
   refine iB .add 9 (.string s22) (.string (⟨#[45]⟩)) (some 23) ?_
   refine And.intro (sz_le (m := (s22 : ByteArray).size) (n := 1) rfl rfl (by omega)) ?_
   intro s23 hs23
   have hl23 : (s23 : ByteArray).size = (s22 : ByteArray).size + 1 := sz_add hs23 rfl rfl
   refine iQ 2 (iC 182 [Iv d, Iv 2] (some 26) (c_padded (n := d) (w := 2) ⟨by omega, by omega⟩ (by decide)) ?_)
   rintro _ rfl
   refine iB .add 9 (.string s23) (.string (tx (padL d 2))) (some 27) ?_
   refine And.intro (sz_le (m := (s23 : ByteArray).size) (n := ((padL d 2)).length) rfl rfl (by omega)) ?_
   intro s27 hs27
   have hl27 : (s27 : ByteArray).size = (s23 : ByteArray).size + ((padL d 2)).length := sz_add hs27 rfl rfl
   refine iQ 1 (iE 28 [(1, .p 1 0), (2, .d (Sv s27)), (4, Ia y), (7, Ba false), (11, Ba false)] [(1, [Iv y, Iv m, Iv d])] ?_)
   refine vc_ret (iR (Sv s27) ?_)
   rw [hs27, hs23, hs22, hs18, hs17, dateT, if_pos hb, dateL, if_neg hc11, if_neg hc11]; simp only [tx_lit, tx_append, tx_nil.symm, List.append_assoc]
  ·replace hc11 := bt hc11
   refine iT (vc_reg rfl (iQ 1 (iU .neg (.int .i64 y) (some 13) ?_)))
   intro z13 hz13
   try replace hz13 := hz13.i64 (by omega)
   refine iQ 2 (iE 28 [(1, .p 1 0), (2, .d (Sv (⟨#[]⟩))), (3, .d (Sv (⟨#[45]⟩))), (4, Ia z13), (7, Ba false), (11, Ba true)] [(1, [Iv y, Iv m, Iv d])] ?_)
   refine seq_n (vc_seqr rfl (iQ 2 (iC 182 [Iv z13, Iv 4] (some 16) (c_padded (n := z13) (w := 4) ⟨by omega, by omega⟩ (by decide)) ?_)))
   rintro _ rfl
   have p1 := padL_le (n := z13) (w := 4) ⟨by omega, by omega⟩ (by decide)
   have p2 := padL_le (n := m) (w := 2) ⟨by omega, by omega⟩ (by decide)
   have p3 := padL_le (n := d) (w := 2) ⟨by omega, by omega⟩ (by decide)
   refine iB .add 9 (.string (⟨#[45]⟩)) (.string (tx (padL z13 4))) (some 17) ?_
   refine And.intro (sz_le (m := 1) (n := ((padL z13 4)).length) rfl rfl (by omega)) ?_
   intro s17 hs17
   have hl17 : (s17 : ByteArray).size = 1 + ((padL z13 4)).length := sz_add hs17 rfl rfl
   refine iB .add 9 (.string s17) (.string (⟨#[45]⟩)) (some 18) ?_
   refine And.intro (sz_le (m := (s17 : ByteArray).size) (n := 1) rfl rfl (by omega)) ?_
   intro s18 hs18
   have hl18 : (s18 : ByteArray).size = (s17 : ByteArray).size + 1 := sz_add hs18 rfl rfl
   refine iQ 2 (iC 182 [Iv m, Iv 2] (some 21) (c_padded (n := m) (w := 2) ⟨by omega, by omega⟩ (by decide)) ?_)
   rintro _ rfl
   refine iB .add 9 (.string s18) (.string (tx (padL m 2))) (some 22) ?_
   refine And.intro (sz_le (m := (s18 : ByteArray).size) (n := ((padL m 2)).length) rfl rfl (by omega)) ?_
   intro s22 hs22
   have hl22 : (s22 : ByteArray).size = (s18 : ByteArray).size + ((padL m 2)).length := sz_add hs22 rfl rfl
   refine iB .add 9 (.string s22) (.string (⟨#[45]⟩)) (some 23) ?_
   refine And.intro (sz_le (m := (s22 : ByteArray).size) (n := 1) rfl rfl (by omega)) ?_
   intro s23 hs23
   have hl23 : (s23 : ByteArray).size = (s22 : ByteArray).size + 1 := sz_add hs23 rfl rfl
   refine iQ 2 (iC 182 [Iv d, Iv 2] (some 26) (c_padded (n := d) (w := 2) ⟨by omega, by omega⟩ (by decide)) ?_)
   rintro _ rfl
   refine iB .add 9 (.string s23) (.string (tx (padL d 2))) (some 27) ?_
   refine And.intro (sz_le (m := (s23 : ByteArray).size) (n := ((padL d 2)).length) rfl rfl (by omega)) ?_
   intro s27 hs27
   have hl27 : (s27 : ByteArray).size = (s23 : ByteArray).size + ((padL d 2)).length := sz_add hs27 rfl rfl
   refine iQ 1 (iE 28 [(1, .p 1 0), (2, .d (Sv s27)), (4, Ia z13), (7, Ba false), (11, Ba true)] [(1, [Iv y, Iv m, Iv d])] ?_)
   refine vc_ret (iR (Sv s27) ?_)
   rw [hs27, hs23, hs22, hs18, hs17, dateT, if_pos hb, dateL, if_pos hc11, if_pos hc11, hz13]; simp only [tx_lit, tx_append, List.append_assoc, Int.zero_sub]
 ·replace hc7 := bt hc7
  refine iT (vc_seqr rfl (iQ 1 (iE 28 [(1, .p 1 0), (2, .d (Sv (⟨#[]⟩))), (7, Ba true)] [(1, [Iv y, Iv m, Iv d])] ?_)))
  refine vc_ret (seq_r (iR (Sv (⟨#[]⟩)) ?_))
  rw [dateT, if_neg (fun h => by have := hb.2 h; rw [hc7] at this; cases this)]; rfl
theorem c_TMay {s o : Int} {z : Bool} : HasC Tryz.prog 160 [.agg [.v (.int .i64 s), .v (.bool z), .v (.int .i64 o)]] (fun r => ∃ b, r = .v (.bool b) ∧ (b = true ↔ mayT s z o)) := by
 refine HasC.of [] (fn := Tryz.f160) tyOk mixed (fun args w => Tryz.call160 args w) Tryz.func160 rfl (by kernel_rfl) (Nat.le_of_ble_eq_true rfl) (⟨_, decide (mayT s z o), rfl, by simp⟩) ?_
 refine vc_seqr rfl (iQ 2 (iE 30 [(1, .p 1 0), (2, Ba false)] [(1, [Iv s, Bv z, Iv o])] ?_))
 refine vc_seqr rfl (iQ 2 (iB .geq 3 (.int .i64 s) (.int .i64 0) (some 5) ?_))
 intro c5 hc5
 refine iQ 1 ?_
 cases c5
 ·replace hc5 := bf hc5
  refine iQ 24 (iE 30 [(2, Ba false)] [] ?_)
  refine vc_ret (iR (Bv false) ?_)
  exact ⟨_, rfl, by unfold mayT; grind⟩
 ·replace hc5 := bt hc5
  refine iQ 2 (iB .lss 3 (.int .i64 s) (.int .i64 86400) (some 9) ?_)
  intro c9 hc9
  refine iQ 2 ?_
  cases c9
  ·replace hc9 := bf hc9
   refine iQ 19 (iE 30 [(2, Ba false)] [] ?_)
   refine vc_ret (iR (Bv false) ?_)
   exact ⟨_, rfl, by unfold mayT; grind⟩
  ·replace hc9 := bt hc9
   refine iQ 2 (iB .geq 3 (.int .i64 o) (.int .i64 (-64800)) (some 14) ?_)
   intro c14 hc14
   refine iQ 2 ?_
   cases c14
   ·replace hc14 := bf hc14
    refine iQ 14 (iE 30 [(2, Ba false)] [] ?_)
    refine vc_ret (iR (Bv false) ?_)
    exact ⟨_, rfl, by unfold mayT; grind⟩
   ·replace hc14 := bt hc14
    refine iQ 2 (iB .leq 3 (.int .i64 o) (.int .i64 64800) (some 19) ?_)
    intro c19 hc19
    refine iQ 2 ?_
    cases c19
    ·replace hc19 := bf hc19
     refine iQ 9 (iE 30 [(2, Ba false)] [] ?_)
     refine vc_ret (iR (Bv false) ?_)
     exact ⟨_, rfl, by unfold mayT; grind⟩
    ·replace hc19 := bt hc19
     refine iQ 3 ?_
     cases z
     ·skip
      refine iQ 2 (iB .eql 3 (.int .i64 o) (.int .i64 0) (some 27) ?_)
      intro c27 hc27
      refine iQ 3 (iE 30 [(2, Ba c27)] [] ?_)
      refine vc_ret (iR (Bv c27) ?_)
      exact ⟨_, rfl, by unfold mayT; grind⟩
     ·skip
      refine iQ 6 (iE 30 [(2, Ba true)] [] ?_)
      refine vc_ret (iR (Bv true) ?_)
      exact ⟨_, rfl, by unfold mayT; grind⟩
theorem c_Hour {s o : Int} {z : Bool} (h0 : 0 ≤ s) (h1 : s < 86400) : HasC Tryz.prog 187 [.agg [.v (.int .i64 s), .v (.bool z), .v (.int .i64 o)]] (fun r => r = .v (.int .i64 (s / 3600))) := by
 refine HasC.of [] (fn := Tryz.f187) tyOk mixed (fun args w => Tryz.call187 args w) Tryz.func187 rfl (by kernel_rfl) (Nat.le_of_ble_eq_true rfl) (⟨_, rfl⟩) ?_
 refine vc_seqr rfl (iQ 2 (iE 6 [(1, .p 1 0), (2, Ia 0)] [(1, [Iv s, Bv z, Iv o])] ?_))
 refine vc_seqr rfl (iQ 2 (iB .quo 3 (.int .i64 s) (.int .i64 3600) (some 5) ?_))
 refine And.intro (by omega) ?_
 intro z5 hz5
 refine iQ 1 (iE 6 [(2, Ia z5)] [] ?_)
 refine vc_ret (iR (Iv z5) ?_)
 rw [quo_pos hz5 (by decide) (by omega) (by omega)]
theorem c_Minute {s o : Int} {z : Bool} (h0 : 0 ≤ s) (h1 : s < 86400) : HasC Tryz.prog 188 [.agg [.v (.int .i64 s), .v (.bool z), .v (.int .i64 o)]] (fun r => r = .v (.int .i64 (s % 3600 / 60))) := by
 refine HasC.of [] (fn := Tryz.f188) tyOk mixed (fun args w => Tryz.call188 args w) Tryz.func188 rfl (by kernel_rfl) (Nat.le_of_ble_eq_true rfl) (⟨_, rfl⟩) ?_
 refine vc_seqr rfl (iQ 2 (iE 7 [(1, .p 1 0), (2, Ia 0)] [(1, [Iv s, Bv z, Iv o])] ?_))
 refine vc_seqr rfl (iQ 2 (iB .quo 3 (.int .i64 s) (.int .i64 60) (some 5) ?_))
 refine And.intro (by omega) ?_
 intro z5 hz5
 have e5 : z5 = s / 60 := quo_pos hz5 (by decide) (by omega) (by omega)
 refine iB .rem 3 (.int .i64 z5) (.int .i64 60) (some 6) ?_
 refine And.intro (by omega) ?_
 intro z6 hz6
 refine iQ 1 (iE 7 [(2, Ia z6)] [] ?_)
 refine vc_ret (iR (Iv z6) ?_)
 rw [tm_pos hz6 (by omega), show z5 % 60 = s % 3600 / 60 by omega]
theorem c_Second {s o : Int} {z : Bool} (h0 : 0 ≤ s) (h1 : s < 86400) : HasC Tryz.prog 189 [.agg [.v (.int .i64 s), .v (.bool z), .v (.int .i64 o)]] (fun r => r = .v (.int .i64 (s % 60))) := by
 refine HasC.of [] (fn := Tryz.f189) tyOk mixed (fun args w => Tryz.call189 args w) Tryz.func189 rfl (by kernel_rfl) (Nat.le_of_ble_eq_true rfl) (⟨_, rfl⟩) ?_
 refine vc_seqr rfl (iQ 2 (iE 6 [(1, .p 1 0), (2, Ia 0)] [(1, [Iv s, Bv z, Iv o])] ?_))
 refine vc_seqr rfl (iQ 2 (iB .rem 3 (.int .i64 s) (.int .i64 60) (some 5) ?_))
 refine And.intro (by omega) ?_
 intro z5 hz5
 refine iQ 1 (iE 6 [(2, Ia z5)] [] ?_)
 refine vc_ret (iR (Iv z5) ?_)
 rw [tm_pos hz5 (by omega)]

theorem c_lexTime {s o : Int} {z : Bool} : HasC Tryz.prog 159 [.agg [.v (.int .i64 s), .v (.bool z), .v (.int .i64 o)]] (fun r => r = .v (.string (tx (timeT s z o)))) := by
 refine HasC.of [] (fn := Tryz.f159) tyOk mixed (fun args w => Tryz.call159 args w) Tryz.func159 rfl (by kernel_rfl) (Nat.le_of_ble_eq_true rfl) (⟨_, rfl⟩) ?_
 refine vc_seqr rfl (iQ 2 (iE 60 [(1, .p 1 0), (2, .d (Sv (⟨#[]⟩)))] [(1, [Iv s, Bv z, Iv o])] ?_))
 refine vc_seq (vc_seqr rfl (iQ 1 (iC 160 [.agg [Iv s, Bv z, Iv o]] (some 7) (c_TMay) ?_)))
 rintro _ ⟨b, rfl, hb⟩
 refine iU .not (.bool b) (some 8) ?_
 intro c8 hc8
 refine iE 60 [(1, .p 1 0), (2, .d (Sv (⟨#[]⟩))), (8, Ba c8)] [(1, [Iv s, Bv z, Iv o])] ?_
 cases c8
 ·replace hc8 := bf hc8
  replace hb : mayT s z o := hb.1 (by simpa using hc8)
  have hb' := hb
  unfold mayT at hb'
  refine iF (vc_skip (seq_n (vc_seqr rfl (iQ 1 (iC 187 [.agg [Iv s, Bv z, Iv o]] (some 10) (c_Hour (by omega) (by omega)) ?_)))))
  rintro _ rfl
  refine iC 182 [Iv (s / 3600), Iv 2] (some 11) (c_padded (n := s / 3600) (w := 2) ⟨by omega, by omega⟩ (by decide)) ?_
  rintro _ rfl
  have p1 := padL_le (n := s / 3600) (w := 2) ⟨by omega, by omega⟩ (by decide)
  have p2 := padL_le (n := s % 3600 / 60) (w := 2) ⟨by omega, by omega⟩ (by decide)
  have p3 := padL_le (n := s % 60) (w := 2) ⟨by omega, by omega⟩ (by decide)
  refine iB .add 9 (.string (tx (padL (s / 3600) 2))) (.string (⟨#[58]⟩)) (some 12) ?_
  refine And.intro (sz_le (m := ((padL (s / 3600) 2)).length) (n := 1) rfl rfl (by omega)) ?_
  intro s12 hs12
  have hl12 : (s12 : ByteArray).size = ((padL (s / 3600) 2)).length + 1 := sz_add hs12 rfl rfl
  refine iQ 1 (iC 188 [.agg [Iv s, Bv z, Iv o]] (some 14) (c_Minute (by omega) (by omega)) ?_)
  rintro _ rfl
  refine iC 182 [Iv (s % 3600 / 60), Iv 2] (some 15) (c_padded (n := s % 3600 / 60) (w := 2) ⟨by omega, by omega⟩ (by decide)) ?_
  rintro _ rfl
  refine iB .add 9 (.string s12) (.string (tx (padL (s % 3600 / 60) 2))) (some 16) ?_
  refine And.intro (sz_le (m := (s12 : ByteArray).size) (n := ((padL (s % 3600 / 60) 2)).length) rfl rfl (by omega)) ?_
  intro s16 hs16
  have hl16 : (s16 : ByteArray).size = (s12 : ByteArray).size + ((padL (s % 3600 / 60) 2)).length := sz_add hs16 rfl rfl
  refine iB .add 9 (.string s16) (.string (⟨#[58]⟩)) (some 17) ?_
  refine And.intro (sz_le (m := (s16 : ByteArray).size) (n := 1) rfl rfl (by omega)) ?_
  intro s17 hs17
  have hl17 : (s17 : ByteArray).size = (s16 : ByteArray).size + 1 := sz_add hs17 rfl rfl
  refine iQ 1 (iC 189 [.agg [Iv s, Bv z, Iv o]] (some 19) (c_Second (by omega) (by omega)) ?_)
  rintro _ rfl
  refine iC 182 [Iv (s % 60), Iv 2] (some 20) (c_padded (n := s % 60) (w := 2) ⟨by omega, by omega⟩ (by decide)) ?_
  rintro _ rfl
  refine iB .add 9 (.string s17) (.string (tx (padL (s % 60) 2))) (some 21) ?_
  refine And.intro (sz_le (m := (s17 : ByteArray).size) (n := ((padL (s % 60) 2)).length) rfl rfl (by omega)) ?_
  intro s21 hs21
  have hl21 : (s21 : ByteArray).size = (s17 : ByteArray).size + ((padL (s % 60) 2)).length := sz_add hs21 rfl rfl
  refine iQ 1 (iE 60 [(1, .p 1 0), (2, .d (Sv (⟨#[]⟩))), (3, .d (Sv s21)), (8, Ba false)] [(1, [Iv s, Bv z, Iv o])] ?_)
  refine vc_seq (vc_seqr rfl (iQ 2 (iU .not (.bool z) (some 24) ?_)))
  intro c24 hc24
  refine iE 60 [(1, .p 1 0), (2, .d (Sv (⟨#[]⟩))), (3, .d (Sv s21)), (8, Ba false), (24, Ba c24)] [(1, [Iv s, Bv z, Iv o])] ?_
  cases c24
  ·replace hc24 := bf hc24
   refine iF (vc_skip (seq_n (vc_seq (vc_seqr rfl (iQ 2 (iB .eql 3 (.int .i64 o) (.int .i64 0) (some 28) ?_))))))
   intro c28 hc28
   refine iE 60 [(1, .p 1 0), (2, .d (Sv (⟨#[]⟩))), (3, .d (Sv s21)), (8, Ba false), (24, Ba false), (28, Ba c28)] [(1, [Iv s, Bv z, Iv o])] ?_
   cases c28
   ·replace hc28 := bf hc28
    refine iF (vc_skip (seq_n (vc_seqr rfl (iQ 4 (iE 60 [(1, .p 1 0), (2, .d (Sv (⟨#[]⟩))), (3, .d (Sv s21)), (4, .d (Sv (⟨#[43]⟩))), (5, Ia o), (8, Ba false), (24, Ba false), (28, Ba false)] [(1, [Iv s, Bv z, Iv o])] ?_)))))
    refine vc_seq (vc_seqr rfl (iQ 1 (iB .lss 3 (.int .i64 o) (.int .i64 0) (some 34) ?_)))
    intro c34 hc34
    refine iE 60 [(1, .p 1 0), (2, .d (Sv (⟨#[]⟩))), (3, .d (Sv s21)), (4, .d (Sv (⟨#[43]⟩))), (5, Ia o), (8, Ba false), (24, Ba false), (28, Ba false), (34, Ba c34)] [(1, [Iv s, Bv z, Iv o])] ?_
    cases c34
    ·replace hc34 := bf hc34
     have hzl : zoneL z o = 43 :: offL o := by rw [zoneL, if_neg hc24, if_neg hc28, if_neg hc34]
     refine iF (vc_skip (seq_n (vc_seqr rfl (iQ 3 (iB .quo 3 (.int .i64 o) (.int .i64 3600) (some 40) ?_)))))
     refine And.intro (by omega) ?_
     intro z40 hz40
     have e40 : z40 = o / 3600 := quo_pos hz40 (by decide) (by omega) (by omega)
     refine iC 182 [Iv z40, Iv 2] (some 41) (c_padded (n := z40) (w := 2) ⟨by omega, by omega⟩ (by decide)) ?_
     rintro _ rfl
     have p40 := padL_le (n := z40) (w := 2) ⟨by omega, by omega⟩ (by decide)
     refine iB .add 9 (.string (⟨#[43]⟩)) (.string (tx (padL z40 2))) (some 42) ?_
     refine And.intro (sz_le (m := 1) (n := ((padL z40 2)).length) rfl rfl (by omega)) ?_
     intro s42 hs42
     have hl42 : (s42 : ByteArray).size = 1 + ((padL z40 2)).length := sz_add hs42 rfl rfl
     refine iB .add 9 (.string s42) (.string (⟨#[58]⟩)) (some 43) ?_
     refine And.intro (sz_le (m := (s42 : ByteArray).size) (n := 1) rfl rfl (by omega)) ?_
     intro s43 hs43
     have hl43 : (s43 : ByteArray).size = (s42 : ByteArray).size + 1 := sz_add hs43 rfl rfl
     refine iQ 1 (iB .quo 3 (.int .i64 o) (.int .i64 60) (some 45) ?_)
     refine And.intro (by omega) ?_
     intro z45 hz45
     have e45 : z45 = o / 60 := quo_pos hz45 (by decide) (by omega) (by omega)
     refine iB .rem 3 (.int .i64 z45) (.int .i64 60) (some 46) ?_
     refine And.intro (by omega) ?_
     intro z46 hz46
     have e46 : z46 = o % 3600 / 60 := by rw [tm_pos hz46 (by omega), e45]; omega
     refine iC 182 [Iv z46, Iv 2] (some 47) (c_padded (n := z46) (w := 2) ⟨by omega, by omega⟩ (by decide)) ?_
     rintro _ rfl
     have p46 := padL_le (n := z46) (w := 2) ⟨by omega, by omega⟩ (by decide)
     refine iB .add 9 (.string s43) (.string (tx (padL z46 2))) (some 48) ?_
     refine And.intro (sz_le (m := (s43 : ByteArray).size) (n := ((padL z46 2)).length) rfl rfl (by omega)) ?_
     intro s48 hs48
     have hl48 : (s48 : ByteArray).size = (s43 : ByteArray).size + ((padL z46 2)).length := sz_add hs48 rfl rfl
     refine iB .add 9 (.string s21) (.string s48) (some 49) ?_
     refine And.intro (sz_le (m := (s21 : ByteArray).size) (n := (s48 : ByteArray).size) rfl rfl (by omega)) ?_
     intro s49 hs49
     have hl49 : (s49 : ByteArray).size = (s21 : ByteArray).size + (s48 : ByteArray).size := sz_add hs49 rfl rfl
     refine iQ 1 (iE 60 [(1, .p 1 0), (2, .d (Sv (⟨#[]⟩))), (3, .d (Sv s49)), (5, Ia o), (8, Ba false), (24, Ba false), (28, Ba false), (34, Ba false)] [(1, [Iv s, Bv z, Iv o])] ?_)
     refine vc_seq (vc_seqr rfl (iQ 1 (iB .rem 3 (.int .i64 o) (.int .i64 60) (some 51) ?_)))
     refine And.intro (by omega) ?_
     intro z51 hz51
     have e51 : z51 = o % 60 := tm_pos hz51 (by omega)
     refine iB .neq 3 (.int .i64 z51) (.int .i64 0) (some 52) ?_
     intro c52 hc52
     refine iE 60 [(1, .p 1 0), (2, .d (Sv (⟨#[]⟩))), (3, .d (Sv s49)), (5, Ia o), (8, Ba false), (24, Ba false), (28, Ba false), (34, Ba false), (52, Ba c52)] [(1, [Iv s, Bv z, Iv o])] ?_
     cases c52
     ·replace hc52 := bf hc52
      refine iF (vc_skip (seq_n (vc_seqr rfl (iQ 2 (iE 60 [(1, .p 1 0), (2, .d (Sv s49)), (3, .d (Sv s49)), (5, Ia o), (8, Ba false), (24, Ba false), (28, Ba false), (34, Ba false), (52, Ba false)] [(1, [Iv s, Bv z, Iv o])] ?_)))))
      refine vc_ret (iR (Sv s49) ?_)
      simp only [hs49, hs48, hs43, hs42, hs21, hs17, hs16, hs12, tx_lit, tx_append, e40, e46]; rw [timeT, if_pos hb, timeL, hzl]; rw [offL, if_pos (by omega)]; all_goals simp only [List.append_assoc, List.cons_append, List.nil_append, List.append_nil]
     ·replace hc52 := bt hc52
      refine iT (vc_reg rfl (iQ 2 (iB .rem 3 (.int .i64 o) (.int .i64 60) (some 55) ?_)))
      refine And.intro (by omega) ?_
      intro z55 hz55
      have e55 : z55 = o % 60 := tm_pos hz55 (by omega)
      refine iC 182 [Iv z55, Iv 2] (some 56) (c_padded (n := z55) (w := 2) ⟨by omega, by omega⟩ (by decide)) ?_
      rintro _ rfl
      have p55 := padL_le (n := z55) (w := 2) ⟨by omega, by omega⟩ (by decide)
      refine iB .add 9 (.string (⟨#[58]⟩)) (.string (tx (padL z55 2))) (some 57) ?_
      refine And.intro (sz_le (m := 1) (n := ((padL z55 2)).length) rfl rfl (by omega)) ?_
      intro s57 hs57
      have hl57 : (s57 : ByteArray).size = 1 + ((padL z55 2)).length := sz_add hs57 rfl rfl
      refine iB .add 9 (.string s49) (.string s57) (some 58) ?_
      refine And.intro (sz_le (m := (s49 : ByteArray).size) (n := (s57 : ByteArray).size) rfl rfl (by omega)) ?_
      intro s58 hs58
      have hl58 : (s58 : ByteArray).size = (s49 : ByteArray).size + (s57 : ByteArray).size := sz_add hs58 rfl rfl
      refine iQ 1 (iE 60 [(1, .p 1 0), (2, .d (Sv (⟨#[]⟩))), (3, .d (Sv s58)), (5, Ia o), (8, Ba false), (24, Ba false), (28, Ba false), (34, Ba false), (52, Ba true)] [(1, [Iv s, Bv z, Iv o])] ?_)
      refine seq_n (vc_seqr rfl (iQ 2 (iE 60 [(1, .p 1 0), (2, .d (Sv s58)), (3, .d (Sv s58)), (5, Ia o), (8, Ba false), (24, Ba false), (28, Ba false), (34, Ba false), (52, Ba true)] [(1, [Iv s, Bv z, Iv o])] ?_)))
      refine vc_ret (iR (Sv s58) ?_)
      simp only [hs58, hs57, hs49, hs48, hs43, hs42, hs21, hs17, hs16, hs12, tx_lit, tx_append, e40, e46, e55]; rw [timeT, if_pos hb, timeL, hzl]; rw [offL, if_neg (by omega)]; all_goals simp only [List.append_assoc, List.cons_append, List.nil_append, List.append_nil]
    ·replace hc34 := bt hc34
     refine iT (vc_reg rfl (iQ 1 (iU .neg (.int .i64 o) (some 36) ?_)))
     intro z36 hz36
     try replace hz36 := hz36.i64 (by omega)
     have e36 : z36 = -o := by omega
     have hzl : zoneL z o = 45 :: offL z36 := by rw [zoneL, if_neg hc24, if_neg hc28, if_pos hc34, e36]
     refine iQ 2 (iE 60 [(1, .p 1 0), (2, .d (Sv (⟨#[]⟩))), (3, .d (Sv s21)), (4, .d (Sv (⟨#[45]⟩))), (5, Ia z36), (8, Ba false), (24, Ba false), (28, Ba false), (34, Ba true)] [(1, [Iv s, Bv z, Iv o])] ?_)
     refine seq_n (vc_seqr rfl (iQ 3 (iB .quo 3 (.int .i64 z36) (.int .i64 3600) (some 40) ?_)))
     refine And.intro (by omega) ?_
     intro z40 hz40
     have e40 : z40 = z36 / 3600 := quo_pos hz40 (by decide) (by omega) (by omega)
     refine iC 182 [Iv z40, Iv 2] (some 41) (c_padded (n := z40) (w := 2) ⟨by omega, by omega⟩ (by decide)) ?_
     rintro _ rfl
     have p40 := padL_le (n := z40) (w := 2) ⟨by omega, by omega⟩ (by decide)
     refine iB .add 9 (.string (⟨#[45]⟩)) (.string (tx (padL z40 2))) (some 42) ?_
     refine And.intro (sz_le (m := 1) (n := ((padL z40 2)).length) rfl rfl (by omega)) ?_
     intro s42 hs42
     have hl42 : (s42 : ByteArray).size = 1 + ((padL z40 2)).length := sz_add hs42 rfl rfl
     refine iB .add 9 (.string s42) (.string (⟨#[58]⟩)) (some 43) ?_
     refine And.intro (sz_le (m := (s42 : ByteArray).size) (n := 1) rfl rfl (by omega)) ?_
     intro s43 hs43
     have hl43 : (s43 : ByteArray).size = (s42 : ByteArray).size + 1 := sz_add hs43 rfl rfl
     refine iQ 1 (iB .quo 3 (.int .i64 z36) (.int .i64 60) (some 45) ?_)
     refine And.intro (by omega) ?_
     intro z45 hz45
     have e45 : z45 = z36 / 60 := quo_pos hz45 (by decide) (by omega) (by omega)
     refine iB .rem 3 (.int .i64 z45) (.int .i64 60) (some 46) ?_
     refine And.intro (by omega) ?_
     intro z46 hz46
     have e46 : z46 = z36 % 3600 / 60 := by rw [tm_pos hz46 (by omega), e45]; omega
     refine iC 182 [Iv z46, Iv 2] (some 47) (c_padded (n := z46) (w := 2) ⟨by omega, by omega⟩ (by decide)) ?_
     rintro _ rfl
     have p46 := padL_le (n := z46) (w := 2) ⟨by omega, by omega⟩ (by decide)
     refine iB .add 9 (.string s43) (.string (tx (padL z46 2))) (some 48) ?_
     refine And.intro (sz_le (m := (s43 : ByteArray).size) (n := ((padL z46 2)).length) rfl rfl (by omega)) ?_
     intro s48 hs48
     have hl48 : (s48 : ByteArray).size = (s43 : ByteArray).size + ((padL z46 2)).length := sz_add hs48 rfl rfl
     refine iB .add 9 (.string s21) (.string s48) (some 49) ?_
     refine And.intro (sz_le (m := (s21 : ByteArray).size) (n := (s48 : ByteArray).size) rfl rfl (by omega)) ?_
     intro s49 hs49
     have hl49 : (s49 : ByteArray).size = (s21 : ByteArray).size + (s48 : ByteArray).size := sz_add hs49 rfl rfl
     refine iQ 1 (iE 60 [(1, .p 1 0), (2, .d (Sv (⟨#[]⟩))), (3, .d (Sv s49)), (5, Ia z36), (8, Ba false), (24, Ba false), (28, Ba false), (34, Ba true)] [(1, [Iv s, Bv z, Iv o])] ?_)
     refine vc_seq (vc_seqr rfl (iQ 1 (iB .rem 3 (.int .i64 z36) (.int .i64 60) (some 51) ?_)))
     refine And.intro (by omega) ?_
     intro z51 hz51
     have e51 : z51 = z36 % 60 := tm_pos hz51 (by omega)
     refine iB .neq 3 (.int .i64 z51) (.int .i64 0) (some 52) ?_
     intro c52 hc52
     refine iE 60 [(1, .p 1 0), (2, .d (Sv (⟨#[]⟩))), (3, .d (Sv s49)), (5, Ia z36), (8, Ba false), (24, Ba false), (28, Ba false), (34, Ba true), (52, Ba c52)] [(1, [Iv s, Bv z, Iv o])] ?_
     cases c52
     ·replace hc52 := bf hc52
      refine iF (vc_skip (seq_n (vc_seqr rfl (iQ 2 (iE 60 [(1, .p 1 0), (2, .d (Sv s49)), (3, .d (Sv s49)), (5, Ia z36), (8, Ba false), (24, Ba false), (28, Ba false), (34, Ba true), (52, Ba false)] [(1, [Iv s, Bv z, Iv o])] ?_)))))
      refine vc_ret (iR (Sv s49) ?_)
      simp only [hs49, hs48, hs43, hs42, hs21, hs17, hs16, hs12, tx_lit, tx_append, e40, e46]; rw [timeT, if_pos hb, timeL, hzl]; rw [offL, if_pos (by omega)]; all_goals simp only [List.append_assoc, List.cons_append, List.nil_append, List.append_nil]
     ·replace hc52 := bt hc52
      refine iT (vc_reg rfl (iQ 2 (iB .rem 3 (.int .i64 z36) (.int .i64 60) (some 55) ?_)))
      refine And.intro (by omega) ?_
      intro z55 hz55
      have e55 : z55 = z36 % 60 := tm_pos hz55 (by omega)
      refine iC 182 [Iv z55, Iv 2] (some 56) (c_padded (n := z55) (w := 2) ⟨by omega, by omega⟩ (by decide)) ?_
      rintro _ rfl
      have p55 := padL_le (n := z55) (w := 2) ⟨by omega, by omega⟩ (by decide)
      refine iB .add 9 (.string (⟨#[58]⟩)) (.string (tx (padL z55 2))) (some 57) ?_
      refine And.intro (sz_le (m := 1) (n := ((padL z55 2)).length) rfl rfl (by omega)) ?_
      intro s57 hs57
      have hl57 : (s57 : ByteArray).size = 1 + ((padL z55 2)).length := sz_add hs57 rfl rfl
      refine iB .add 9 (.string s49) (.string s57) (some 58) ?_
      refine And.intro (sz_le (m := (s49 : ByteArray).size) (n := (s57 : ByteArray).size) rfl rfl (by omega)) ?_
      intro s58 hs58
      have hl58 : (s58 : ByteArray).size = (s49 : ByteArray).size + (s57 : ByteArray).size := sz_add hs58 rfl rfl
      refine iQ 1 (iE 60 [(1, .p 1 0), (2, .d (Sv (⟨#[]⟩))), (3, .d (Sv s58)), (5, Ia z36), (8, Ba false), (24, Ba false), (28, Ba false), (34, Ba true), (52, Ba true)] [(1, [Iv s, Bv z, Iv o])] ?_)
      refine seq_n (vc_seqr rfl (iQ 2 (iE 60 [(1, .p 1 0), (2, .d (Sv s58)), (3, .d (Sv s58)), (5, Ia z36), (8, Ba false), (24, Ba false), (28, Ba false), (34, Ba true), (52, Ba true)] [(1, [Iv s, Bv z, Iv o])] ?_)))
      refine vc_ret (iR (Sv s58) ?_)
      simp only [hs58, hs57, hs49, hs48, hs43, hs42, hs21, hs17, hs16, hs12, tx_lit, tx_append, e40, e46, e55]; rw [timeT, if_pos hb, timeL, hzl]; rw [offL, if_neg (by omega)]; all_goals simp only [List.append_assoc, List.cons_append, List.nil_append, List.append_nil]
   ·replace hc28 := bt hc28
    refine iT (vc_seqr rfl (iQ 1 (iB .add 9 (.string s21) (.string (⟨#[90]⟩)) (some 30) ?_)))
    refine And.intro (sz_le (m := (s21 : ByteArray).size) (n := 1) rfl rfl (by omega)) ?_
    intro s30 hs30
    have hl30 : (s30 : ByteArray).size = (s21 : ByteArray).size + 1 := sz_add hs30 rfl rfl
    refine iQ 1 (iE 60 [(1, .p 1 0), (2, .d (Sv s30)), (3, .d (Sv s21)), (8, Ba false), (24, Ba false), (28, Ba true)] [(1, [Iv s, Bv z, Iv o])] ?_)
    refine vc_ret (seq_r (iR (Sv s30) ?_))
    simp only [hs30, hs21, hs17, hs16, hs12, tx_lit, tx_append]; rw [timeT, if_pos hb, timeL, zoneL, if_neg hc24, if_pos hc28]
  ·replace hc24 := bt hc24
   refine iT (vc_seqr rfl (iQ 2 (iE 60 [(1, .p 1 0), (2, .d (Sv s21)), (3, .d (Sv s21)), (8, Ba false), (24, Ba true)] [(1, [Iv s, Bv z, Iv o])] ?_)))
   refine vc_ret (seq_r (iR (Sv s21) ?_))
   simp only [hs21, hs17, hs16, hs12, tx_lit, tx_append]; rw [timeT, if_pos hb, timeL, zoneL, if_pos hc24, List.append_nil]
 ·replace hc8 := bt hc8
  refine iT (vc_seqr rfl (iQ 1 (iE 60 [(1, .p 1 0), (2, .d (Sv (⟨#[]⟩))), (8, Ba true)] [(1, [Iv s, Bv z, Iv o])] ?_)))
  refine vc_ret (seq_r (iR (Sv (⟨#[]⟩)) ?_))
  rw [timeT, if_neg (fun h => by have := hb.2 h; rw [hc8] at this; cases this)]; rfl

theorem c_mMay {y m d s o : Int} {z : Bool} : HasC Tryz.prog 161 [.agg [.v (.int .i64 y), .v (.int .i64 m), .v (.int .i64 d), .v (.int .i64 s), .v (.bool z), .v (.int .i64 o)]] (fun r => ∃ b, r = .v (.bool b) ∧ (b = true ↔ mayD y m d ∧ mayT s z o)) := by
 refine HasC.of [] (fn := Tryz.f161) tyOk mixed (fun args w => Tryz.call161 args w) Tryz.func161 rfl (by kernel_rfl) (Nat.le_of_ble_eq_true rfl) (⟨_, decide (mayD y m d ∧ mayT s z o), rfl, by simp⟩) ?_
 refine vc_seqr rfl (iQ 2 (iE 11 [(1, .p 1 0), (2, Ba false)] [(1, [Iv y, Iv m, Iv d, Iv s, Bv z, Iv o])] ?_))
 refine vc_seqr rfl (iQ 2 (iC 154 [.agg [Iv y, Iv m, Iv d]] (some 5) (c_DateMay) ?_))
 rintro _ ⟨b5, rfl, hb5⟩
 refine iQ 1 ?_
 cases b5
 ·replace hb5 := bf hb5
  refine iQ 5 (iE 11 [(2, Ba false)] [] ?_)
  refine vc_ret (iR (Bv false) ?_)
  exact ⟨_, rfl, by grind⟩
 ·replace hb5 := bt hb5
  refine iQ 2 (iC 160 [.agg [Iv s, Bv z, Iv o]] (some 9) (c_TMay) ?_)
  rintro _ ⟨b9, rfl, hb9⟩
  refine iQ 2 (iE 11 [(2, Ba b9)] [] ?_)
  refine vc_ret (iR (Bv b9) ?_)
  exact ⟨_, rfl, by grind⟩
end Go.Proofs.YtpambeengdhhmaaGreatDoor
