/-
  The laws' own makers of days, times and moments; clock.Cmp.
-/
import Derived.Test.YtjpaedjhihiakaaDoorLexA
namespace Go.Proofs.YtjpaedjhihiakaaDoor
open Go.RowKit
set_option linter.unusedVariables false
set_option linter.unusedSimpArgs false
set_option maxRecDepth 100000

theorem c_rLeap {y : Int} : HasC Tryd.prog 96 [.v (.int .i64 y)] (fun r => ∃ b, r = .v (.bool b) ∧ (b = true ↔ leapP y)) := by
  refine HasC.of [] (fn := Tryd.f96) tyOk mixed (fun args w => Tryd.call96 args w) Tryd.func96 rfl (by kernel_rfl) (Nat.le_of_ble_eq_true rfl) (⟨_, decide (leapP y), rfl, by simp⟩) ?_
  refine vc_seqr rfl (iQ 1 (iE 14 [(0, Ia y), (2, Ba false)] [] ?_))
  refine vc_seq (vc_seqr rfl (iQ 1 (iB .rem 3 (.int .i64 y) (.int .i64 400) (some 4) ?_)))
  refine And.intro (by omega) ?_
  intro z4 hz4
  have h4 := tm0 (n := 400) hz4 (by decide)
  refine iB .eql 3 (.int .i64 z4) (.int .i64 0) (some 5) ?_
  intro c5 hc5
  refine iE 14 [(0, Ia y), (2, Ba false), (5, Ba c5)] [] ?_
  cases c5
  · replace hc5 := bf hc5
    refine iF (vc_skip (seq_n (vc_seqr rfl (iQ 1 (iB .rem 3 (.int .i64 y) (.int .i64 4) (some 7) ?_)))))
    refine And.intro (by omega) ?_
    intro z7 hz7
    have h7 := tm0 (n := 4) hz7 (by decide)
    refine iB .eql 3 (.int .i64 z7) (.int .i64 0) (some 8) ?_
    intro c8 hc8
    refine iQ 1 ?_
    cases c8
    · replace hc8 := bf hc8
      refine iQ 5 (iE 14 [(0, Ia y), (2, Ba false), (5, Ba false)] [] ?_)
      refine vc_ret (iR (Bv false) ?_)
      exact ⟨_, rfl, ⟨fun h => (by cases h), fun h => absurd (h7.2 h.1) hc8⟩⟩
    · replace hc8 := bt hc8
      refine iQ 1 (iB .rem 3 (.int .i64 y) (.int .i64 100) (some 11) ?_)
      refine And.intro (by omega) ?_
      intro z11 hz11
      have h11 := tm0 (n := 100) hz11 (by decide)
      refine iB .neq 3 (.int .i64 z11) (.int .i64 0) (some 12) ?_
      intro c12 hc12
      refine iQ 2 (iE 14 [(0, Ia y), (2, Ba c12), (5, Ba false)] [] ?_)
      refine vc_ret (iR (Bv c12) ?_)
      exact ⟨_, rfl, by rw [hc12]; unfold leapP; rw [Ne, h11]; have k1 := h7.1 hc8; have k2 : ¬ y % 400 = 0 := (fun k => hc5 (h4.2 k)); omega⟩
  · replace hc5 := bt hc5
    refine iT (vc_seqr rfl (iQ 1 (iE 14 [(0, Ia y), (2, Ba true), (5, Ba true)] [] ?_)))
    refine vc_ret (seq_r (iR (Bv true) ?_))
    exact ⟨_, rfl, ⟨fun _ => ⟨by have := h4.1 hc5; omega, .inr (h4.1 hc5)⟩, fun _ => rfl⟩⟩
theorem c_rLength {y m : Int} (h1 : 1 ≤ m) (h2 : m ≤ 12) : HasC Tryd.prog 62 [.v (.int .i64 y), .v (.int .i64 m)] (fun r => r = .v (.int .i64 (lenI y m))) := by
  refine HasC.of [] (fn := Tryd.f62) tyOk mixed (fun args w => Tryd.call62 args w) Tryd.func62 rfl (by kernel_rfl) (Nat.le_of_ble_eq_true rfl) (⟨_, rfl⟩) ?_
  refine vc_seqr rfl (iQ 1 (iE 29 [(0, Ia y), (1, Ia m), (4, Ia 0)] [] ?_))
  refine vc_seq (vc_seqr rfl (iQ 1 (iB .lss 3 (.int .i64 m) (.int .i64 1) (some 6) ?_)))
  refine all_false ((by omega)) ?_
  refine iQ 2 (iB .gtr 3 (.int .i64 m) (.int .i64 12) (some 9) ?_)
  refine all_false ((by omega)) ?_
  refine iQ 1 (iE 29 [(0, Ia y), (1, Ia m), (4, Ia 0), (10, Ba false)] [] ?_)
  refine iF (vc_skip (seq_n (vc_seq (vc_seqr rfl (iQ 1 (iB .eql 3 (.int .i64 m) (.int .i64 4) (some 12) ?_))))))
  intro c12 hc12
  refine iQ 1 ?_
  cases c12
  · replace hc12 := bf hc12
    refine iQ 1 (iB .eql 3 (.int .i64 m) (.int .i64 6) (some 15) ?_)
    intro c15 hc15
    refine iQ 2 ?_
    cases c15
    · replace hc15 := bf hc15
      refine iQ 1 (iB .eql 3 (.int .i64 m) (.int .i64 9) (some 19) ?_)
      intro c19 hc19
      refine iQ 2 ?_
      cases c19
      · replace hc19 := bf hc19
        refine iQ 1 (iB .eql 3 (.int .i64 m) (.int .i64 11) (some 23) ?_)
        intro c23 hc23
        refine iQ 1 (iE 29 [(0, Ia y), (1, Ia m), (4, Ia 0), (10, Ba false), (24, Ba c23)] [] ?_)
        cases c23
        · replace hc23 := bf hc23
          refine iF (vc_skip (seq_n (vc_seq (vc_seqr rfl (iQ 1 (iB .neq 3 (.int .i64 m) (.int .i64 2) (some 26) ?_))))))
          intro c26 hc26
          refine iE 29 [(0, Ia y), (1, Ia m), (4, Ia 0), (10, Ba false), (24, Ba false), (26, Ba c26)] [] ?_
          cases c26
          · replace hc26 := bf hc26
            refine iF (vc_skip (seq_n (vc_seq (vc_seqr rfl (iQ 1 (iC 96 [Iv y] (some 28) (c_rLeap) ?_))))))
            rintro _ ⟨lp, rfl, hlp⟩
            refine iE 29 [(1, Ia m), (4, Ia 0), (10, Ba false), (24, Ba false), (26, Ba false), (28, Ba lp)] [] ?_
            cases lp
            · replace hlp := bf hlp
              refine iF (vc_skip (seq_n (vc_seqr rfl (iQ 1 (iE 29 [(1, Ia m), (4, Ia 28), (10, Ba false), (24, Ba false), (26, Ba false), (28, Ba false)] [] ?_)))))
              refine vc_ret (iR (Iv 28) ?_)
              rw [lenI, if_neg (by omega), if_neg (by omega), if_pos (by omega), if_neg hlp]
            · replace hlp := bt hlp
              refine iT (vc_seqr rfl (iQ 1 (iE 29 [(1, Ia m), (4, Ia 29), (10, Ba false), (24, Ba false), (26, Ba false), (28, Ba true)] [] ?_)))
              refine vc_ret (seq_r (iR (Iv 29) ?_))
              rw [lenI, if_neg (by omega), if_neg (by omega), if_pos (by omega), if_pos hlp]
          · replace hc26 := bt hc26
            refine iT (vc_seqr rfl (iQ 1 (iE 29 [(0, Ia y), (1, Ia m), (4, Ia 31), (10, Ba false), (24, Ba false), (26, Ba true)] [] ?_)))
            refine vc_ret (seq_r (iR (Iv 31) ?_))
            rw [lenI, if_pos (by omega)]
        · replace hc23 := bt hc23
          refine iT (vc_seqr rfl (iQ 1 (iE 29 [(0, Ia y), (1, Ia m), (4, Ia 30), (10, Ba false), (24, Ba true)] [] ?_)))
          refine vc_ret (seq_r (iR (Iv 30) ?_))
          rw [lenI, if_neg (by omega), if_pos (by omega)]
      · replace hc19 := bt hc19
        refine iQ 3 (iE 29 [(0, Ia y), (1, Ia m), (4, Ia 0), (10, Ba false), (24, Ba true)] [] ?_)
        refine iT (vc_seqr rfl (iQ 1 (iE 29 [(0, Ia y), (1, Ia m), (4, Ia 30), (10, Ba false), (24, Ba true)] [] ?_)))
        refine vc_ret (seq_r (iR (Iv 30) ?_))
        rw [lenI, if_neg (by omega), if_pos (by omega)]
    · replace hc15 := bt hc15
      refine iQ 7 (iE 29 [(0, Ia y), (1, Ia m), (4, Ia 0), (10, Ba false), (24, Ba true)] [] ?_)
      refine iT (vc_seqr rfl (iQ 1 (iE 29 [(0, Ia y), (1, Ia m), (4, Ia 30), (10, Ba false), (24, Ba true)] [] ?_)))
      refine vc_ret (seq_r (iR (Iv 30) ?_))
      rw [lenI, if_neg (by omega), if_pos (by omega)]
  · replace hc12 := bt hc12
    refine iQ 11 (iE 29 [(0, Ia y), (1, Ia m), (4, Ia 0), (10, Ba false), (24, Ba true)] [] ?_)
    refine iT (vc_seqr rfl (iQ 1 (iE 29 [(0, Ia y), (1, Ia m), (4, Ia 30), (10, Ba false), (24, Ba true)] [] ?_)))
    refine vc_ret (seq_r (iR (Iv 30) ?_))
    rw [lenI, if_neg (by omega), if_pos (by omega)]
theorem tm_pos' {a z n : Int} (h : z = a.tmod n) (h0 : 0 ≤ a) : z = a % n := by rw [h, Int.tmod_eq_emod_of_nonneg h0]
theorem c_mkDate {y m d : Int} : HasC Tryd.prog 25 [.v (.int .i64 y), .v (.int .i64 m), .v (.int .i64 d)] (fun r => ∃ y' m' d', r = .agg [.v (.int .i64 y'), .v (.int .i64 m'), .v (.int .i64 d')] ∧ mayD y' m' d' ∧ (0 ≤ y → y ≤ 9999 → y' = y)) := by
  refine HasC.of [] (fn := Tryd.f25) tyOk mixed (fun args w => Tryd.call25 args w) Tryd.func25 rfl (by kernel_rfl) (Nat.le_of_ble_eq_true rfl) (by by_cases h : 0 ≤ y ∧ y ≤ 9999; exact ⟨_, y, 1, 1, rfl, by unfold mayD; have := lenI_ge y (m := 1) (by decide) (by decide); omega, fun _ _ => rfl⟩; exact ⟨_, 0, 1, 1, rfl, by decide, fun h0 h1 => absurd ⟨h0, h1⟩ h⟩) ?_
  refine vc_seqr rfl (iQ 1 (iE 29 [(0, Ia y), (1, Ia m), (2, Ia d), (6, .p 6 0)] [(6, [Iv 0, Iv 0, Iv 0])] ?_))
  refine vc_seqr rfl (iQ 1 (iB .rem 3 (.int .i64 y) (.int .i64 1000000000) (some 9) ?_))
  refine And.intro (by omega) ?_
  intro z9 hz9
  have h9 := td_spec y (show (0 : Int) < 1000000000 by decide)
  refine iQ 1 (iE 29 [(0, Ia z9), (1, Ia m), (2, Ia d), (6, .p 6 0)] [(6, [Iv 0, Iv 0, Iv 0])] ?_)
  refine vc_seqr rfl (iQ 1 (iB .rem 3 (.int .i64 m) (.int .i64 12) (some 11) ?_))
  refine And.intro (by omega) ?_
  intro z11 hz11
  have h11 := td_spec m (show (0 : Int) < 12 by decide)
  rw [← hz9] at h9
  rw [← hz11] at h11
  refine iB .add 3 (.int .i64 z11) (.int .i64 12) (some 12) ?_
  intro z12 hz12
  try replace hz12 := hz12.i64 (by omega)
  refine iB .rem 3 (.int .i64 z12) (.int .i64 12) (some 13) ?_
  refine And.intro (by omega) ?_
  intro z13 hz13
  have h13 := tm_pos' hz13 (by omega)
  refine iB .add 3 (.int .i64 z13) (.int .i64 1) (some 14) ?_
  intro z14 hz14
  try replace hz14 := hz14.i64 (by omega)
  refine iQ 1 (iE 29 [(0, Ia z9), (1, Ia z14), (2, Ia d), (6, .p 6 0)] [(6, [Iv 0, Iv 0, Iv 0])] ?_)
  refine vc_seqr rfl (iQ 2 (iC 62 [Iv z9, Iv z14] (some 17) (c_rLength (by omega) (by omega)) ?_))
  rintro _ rfl
  have hl := lenI_ge z9 (m := z14) (by omega) (by omega)
  have hl2 := lenI_le z9 z14
  refine iQ 1 (iE 29 [(0, Ia z9), (1, Ia z14), (2, Ia d), (6, .p 6 0), (7, Ia (lenI z9 z14))] [(6, [Iv 0, Iv 0, Iv 0])] ?_)
  refine vc_seqr rfl (iQ 4 (iB .rem 3 (.int .i64 d) (.int .i64 (lenI z9 z14)) (some 22) ?_))
  refine And.intro (by omega) ?_
  intro z22 hz22
  have h22 := td_spec d (show (0 : Int) < lenI z9 z14 by omega)
  rw [← hz22] at h22
  refine iQ 1 (iB .add 3 (.int .i64 z22) (.int .i64 (lenI z9 z14)) (some 24) ?_)
  intro z24 hz24
  try replace hz24 := hz24.i64 (by omega)
  refine iQ 1 (iB .rem 3 (.int .i64 z24) (.int .i64 (lenI z9 z14)) (some 26) ?_)
  refine And.intro (by omega) ?_
  intro z26 hz26
  have h26 := td_spec z24 (show (0 : Int) < lenI z9 z14 by omega)
  rw [← hz26] at h26
  refine iB .add 3 (.int .i64 z26) (.int .i64 1) (some 27) ?_
  intro z27 hz27
  try replace hz27 := hz27.i64 (by omega)
  refine iQ 2 (iE 29 [(0, Ia z9), (1, Ia z14), (6, .p 6 0)] [(6, [Iv z9, Iv z14, Iv z27])] ?_)
  refine vc_ret (iR (.agg [Iv z9, Iv z14, Iv z27]) ?_)
  exact ⟨_, _, _, rfl, by unfold mayD; omega, fun h0 h1 => by rw [hz9]; exact Int.tmod_eq_of_lt h0 (by omega)⟩


theorem c_mkTime {s o : Int} {z : Bool} : HasC Tryd.prog 26 [.v (.int .i64 s), .v (.bool z), .v (.int .i64 o)] (fun r => ∃ s' o', r = .agg [.v (.int .i64 s'), .v (.bool z), .v (.int .i64 o')] ∧ mayT s' z o') := by
  refine HasC.of [] (fn := Tryd.f26) tyOk mixed (fun args w => Tryd.call26 args w) Tryd.func26 rfl (by kernel_rfl) (Nat.le_of_ble_eq_true rfl) (⟨_, 0, 0, rfl, by unfold mayT; simp⟩) ?_
  refine vc_seqr rfl (iQ 1 (iE 19 [(0, Ia s), (1, Ba z), (2, Ia o), (6, .p 6 0)] [(6, [Iv 0, Bv false, Iv 0])] ?_))
  refine vc_seqr rfl (iQ 1 (iB .rem 3 (.int .i64 s) (.int .i64 86400) (some 9) ?_))
  refine And.intro (by omega) ?_
  intro z9 hz9
  have h9 := td_spec s (show (0 : Int) < 86400 by decide)
  rw [← hz9] at h9
  refine iB .add 3 (.int .i64 z9) (.int .i64 86400) (some 10) ?_
  intro z10 hz10
  try replace hz10 := hz10.i64 (by omega)
  refine iB .rem 3 (.int .i64 z10) (.int .i64 86400) (some 11) ?_
  refine And.intro (by omega) ?_
  intro z11 hz11
  have h11 := tm_pos hz11 (by omega)
  refine iQ 4 (iE 19 [(1, Ba z), (2, Ia o), (6, .p 6 0), (7, .p 7 0)] [(6, [Iv 0, Bv false, Iv 0]), (7, [Iv z11, Bv z, Iv 0])] ?_)
  refine vc_seq (vc_seqr rfl (iQ 1 (iE 19 [(1, Ba z), (2, Ia o), (6, .p 6 0), (7, .p 7 0), (14, Ba z)] [(6, [Iv 0, Bv false, Iv 0]), (7, [Iv z11, Bv z, Iv 0])] ?_)))
  cases z
  · skip
    refine iF (vc_skip (seq_n (vc_seqr rfl (iQ 2 (iE 19 [(1, Ba false), (2, Ia o), (6, .p 6 0), (7, .p 7 0), (14, Ba false)] [(6, [Iv z11, Bv false, Iv 0]), (7, [Iv z11, Bv false, Iv 0])] ?_)))))
    refine vc_ret (iR (.agg [Iv z11, Bv false, Iv 0]) ?_)
    exact ⟨_, _, rfl, by unfold mayT; simp; omega⟩
  · skip
    refine iT (vc_reg rfl (iQ 1 (iB .rem 3 (.int .i64 o) (.int .i64 64801) (some 16) ?_)))
    refine And.intro (by omega) ?_
    intro z16 hz16
    have h16 := td_spec o (show (0 : Int) < 64801 by decide)
    rw [← hz16] at h16
    refine iQ 2 (iE 19 [(1, Ba true), (6, .p 6 0), (7, .p 7 0), (14, Ba true)] [(6, [Iv 0, Bv false, Iv 0]), (7, [Iv z11, Bv true, Iv z16])] ?_)
    refine seq_n (vc_seqr rfl (iQ 2 (iE 19 [(1, Ba true), (6, .p 6 0), (7, .p 7 0), (14, Ba true)] [(6, [Iv z11, Bv true, Iv z16]), (7, [Iv z11, Bv true, Iv z16])] ?_)))
    refine vc_ret (iR (.agg [Iv z11, Bv true, Iv z16]) ?_)
    exact ⟨_, _, rfl, by unfold mayT; simp; omega⟩
theorem c_mkMom {y m d s o : Int} {z : Bool} : HasC Tryd.prog 16 [.agg [.v (.int .i64 y), .v (.int .i64 m), .v (.int .i64 d), .v (.int .i64 s), .v (.int .i64 o), .v (.bool z)]] (fun r => ∃ y' m' d' s' o', r = .agg [.v (.int .i64 y'), .v (.int .i64 m'), .v (.int .i64 d'), .v (.int .i64 s'), .v (.bool z), .v (.int .i64 o')] ∧ mayD y' m' d' ∧ mayT s' z o') := by
  refine HasC.of [] (fn := Tryd.f16) tyOk mixed (fun args w => Tryd.call16 args w) Tryd.func16 rfl (by kernel_rfl) (Nat.le_of_ble_eq_true rfl) (⟨_, 0, 1, 1, 0, 0, rfl, by decide, by unfold mayT; simp⟩) ?_
  refine vc_seqr rfl (iQ 2 (iE 18 [(1, .p 1 0), (2, .p 2 0)] [(1, [Iv y, Iv m, Iv d, Iv s, Iv o, Bv z]), (2, [Iv 0, Iv 0, Iv 0, Iv 0, Bv false, Iv 0])] ?_))
  refine vc_seqr rfl (iQ 6 (iC 25 [Iv y, Iv m, Iv d] (some 9) (c_mkDate) ?_))
  rintro _ ⟨y', m', d', rfl, hd, _⟩
  refine iQ 6 (iC 26 [Iv s, Bv z, Iv o] (some 16) (c_mkTime) ?_)
  rintro _ ⟨s', o', rfl, ht⟩
  refine iQ 2 (iE 18 [(2, .p 2 0)] [(2, [Iv y', Iv m', Iv d', Iv s', Bv z, Iv o'])] ?_)
  refine vc_ret (iR (.agg [Iv y', Iv m', Iv d', Iv s', Bv z, Iv o']) ?_)
  exact ⟨_, _, _, _, _, rfl, hd, ht⟩
theorem c_tCmp {s t : Int} (h1 : 0 ≤ s) (h2 : s ≤ 86400) (h3 : 0 ≤ t) (h4 : t ≤ 86400) : HasC Tryd.prog 30 [.agg [.v (.int .i64 s), .v (.bool false), .v (.int .i64 0)], .agg [.v (.int .i64 t), .v (.bool false), .v (.int .i64 0)]] (fun r => ∃ c, r = .tup [.v (.int .i64 c), .v (.bool true)] ∧ (c < 0 ↔ s < t)) := by
  refine HasC.of [] (fn := Tryd.f30) tyOk mixed (fun args w => Tryd.call30 args w) Tryd.func30 rfl (by kernel_rfl) (Nat.le_of_ble_eq_true rfl) (by by_cases h : s < t; exact ⟨_, -1, rfl, by simp [h]⟩; exact ⟨_, 0, rfl, by simp [h]⟩) ?_
  refine vc_seqr rfl (iQ 4 (iE 31 [(2, .p 2 0), (3, .p 3 0), (4, Ia 0), (5, Ba false)] [(2, [Iv s, Bv false, Iv 0]), (3, [Iv t, Bv false, Iv 0])] ?_))
  refine vc_seq (vc_seqr rfl (iQ 4 (iB .neq 4 (.bool false) (.bool false) (some 12) ?_)))
  intro c12 hc12
  refine iE 31 [(2, .p 2 0), (3, .p 3 0), (4, Ia 0), (5, Ba false), (12, Ba c12)] [(2, [Iv s, Bv false, Iv 0]), (3, [Iv t, Bv false, Iv 0])] ?_
  obtain rfl : c12 = false := bff hc12 (by simp)
  refine iF (vc_skip (seq_n (vc_seqr rfl (iQ 4 (iB .sub 3 (.int .i64 s) (.int .i64 0) (some 17) ?_)))))
  intro z17 hz17
  try replace hz17 := hz17.i64 (by omega)
  refine iQ 4 (iB .sub 3 (.int .i64 t) (.int .i64 0) (some 22) ?_)
  intro z22 hz22
  try replace hz22 := hz22.i64 (by omega)
  refine iQ 2 (iE 31 [(2, .p 2 0), (3, .p 3 0), (4, Ia 0), (5, Ba false), (6, Ia z17), (7, Ia z22), (12, Ba false)] [(2, [Iv s, Bv false, Iv 0]), (3, [Iv t, Bv false, Iv 0])] ?_)
  refine vc_seq (vc_block (vc_seqr rfl (iQ 2 (iB .lss 3 (.int .i64 z17) (.int .i64 z22) (some 26) ?_))))
  intro c26 hc26
  refine iQ 1 (iE 31 [(2, .p 2 0), (3, .p 3 0), (4, Ia 0), (5, Ba false), (6, Ia z17), (7, Ia z22), (12, Ba false), (23, Ba c26)] [(2, [Iv s, Bv false, Iv 0]), (3, [Iv t, Bv false, Iv 0])] ?_)
  cases c26
  · replace hc26 := bf hc26
    refine iF (vc_seqr rfl (iQ 2 (iB .gtr 3 (.int .i64 z17) (.int .i64 z22) (some 30) ?_)))
    intro c30 hc30
    refine iQ 1 (iE 31 [(2, .p 2 0), (3, .p 3 0), (4, Ia 0), (5, Ba false), (6, Ia z17), (7, Ia z22), (12, Ba false), (23, Ba false), (27, Ba c30)] [(2, [Iv s, Bv false, Iv 0]), (3, [Iv t, Bv false, Iv 0])] ?_)
    cases c30
    · replace hc30 := bf hc30
      refine iF (vc_skip (block_n (seq_n (vc_seqr rfl (iQ 2 (iE 31 [(2, .p 2 0), (3, .p 3 0), (4, Ia 0), (5, Ba true), (6, Ia z17), (7, Ia z22), (12, Ba false), (23, Ba false), (27, Ba false)] [(2, [Iv s, Bv false, Iv 0]), (3, [Iv t, Bv false, Iv 0])] ?_))))))
      refine vc_ret (iS (Iv 0) (Bv true) [] ?_)
      exact ⟨_, rfl, by omega⟩
    · replace hc30 := bt hc30
      refine iT (vc_seqr rfl (iQ 2 (iE 31 [(2, .p 2 0), (3, .p 3 0), (4, Ia 1), (5, Ba true), (6, Ia z17), (7, Ia z22), (12, Ba false), (23, Ba false), (27, Ba true)] [(2, [Iv s, Bv false, Iv 0]), (3, [Iv t, Bv false, Iv 0])] ?_)))
      refine vc_ret (block_r (seq_r (iS (Iv 1) (Bv true) [] ?_)))
      exact ⟨_, rfl, by omega⟩
  · replace hc26 := bt hc26
    refine iT (vc_seqr rfl (iQ 2 (iE 31 [(2, .p 2 0), (3, .p 3 0), (4, Ia (-1)), (5, Ba true), (6, Ia z17), (7, Ia z22), (12, Ba false), (23, Ba true)] [(2, [Iv s, Bv false, Iv 0]), (3, [Iv t, Bv false, Iv 0])] ?_)))
    refine vc_ret (block_r (seq_r (iS (Iv (-1)) (Bv true) [] ?_)))
    exact ⟨_, rfl, by omega⟩
end Go.Proofs.YtjpaedjhihiakaaDoor
