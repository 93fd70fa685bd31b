/-
  casuistlaw06.Make; casuistlaw10.awake; what Times, Over answer of given numbers.
-/
import Derived.Test.YtfjcblmmfkgkoaaSpnA
namespace Go.Proofs.Ytfjcblmmfkgkoaa
open Go.RowKit
set_option linter.unusedVariables false
set_option linter.unusedSimpArgs false
set_option maxRecDepth 100000


theorem c_rLeap {y : Int} : HasC Try.prog 106 [.v (.int .i64 y)] (fun r => ∃ b, r = .v (.bool b) ∧ (b = true ↔ leapP y)) := by
  refine HasC.of [] (fn := Try.f106) tyOk mixed (fun args w => Try.call106 args w) Try.func106 rfl (by kernel_rfl) (Nat.le_of_ble_eq_true rfl) (⟨_, decide (leapP y), rfl, by simp⟩) ?_
  refine vc_seqr rfl (iQ 1 (iE 14 [(0, Ia y), (2, Ba false)] [] ?_))
  refine vc_seq (vc_seqr rfl (iQ 1 (iB .rem 3 (.int .i64 y) (.int .i64 400) (some 4) ?_)))
  refine And.intro (by omega) ?_
  intro z4 hz4
  have h4 := tm0 (n := 400) hz4 (by decide)
  refine iB .eql 3 (.int .i64 z4) (.int .i64 0) (some 5) ?_
  intro c5 hc5
  refine iE 14 [(0, Ia y), (2, Ba false), (5, Ba c5)] [] ?_
  cases c5
  · replace hc5 := bf hc5
    refine iF (vc_skip (seq_n (vc_seqr rfl (iQ 1 (iB .rem 3 (.int .i64 y) (.int .i64 4) (some 7) ?_)))))
    refine And.intro (by omega) ?_
    intro z7 hz7
    have h7 := tm0 (n := 4) hz7 (by decide)
    refine iB .eql 3 (.int .i64 z7) (.int .i64 0) (some 8) ?_
    intro c8 hc8
    refine iQ 1 ?_
    cases c8
    · replace hc8 := bf hc8
      refine iQ 5 (iE 14 [(0, Ia y), (2, Ba false), (5, Ba false)] [] ?_)
      refine vc_ret (iR (Bv false) ?_)
      exact ⟨_, rfl, ⟨fun h => (by cases h), fun h => absurd (h7.2 h.1) hc8⟩⟩
    · replace hc8 := bt hc8
      refine iQ 1 (iB .rem 3 (.int .i64 y) (.int .i64 100) (some 11) ?_)
      refine And.intro (by omega) ?_
      intro z11 hz11
      have h11 := tm0 (n := 100) hz11 (by decide)
      refine iB .neq 3 (.int .i64 z11) (.int .i64 0) (some 12) ?_
      intro c12 hc12
      refine iQ 2 (iE 14 [(0, Ia y), (2, Ba c12), (5, Ba false)] [] ?_)
      refine vc_ret (iR (Bv c12) ?_)
      exact ⟨_, rfl, by rw [hc12]; unfold leapP; rw [Ne, h11]; have k1 := h7.1 hc8; have k2 : ¬ y % 400 = 0 := (fun k => hc5 (h4.2 k)); omega⟩
  · replace hc5 := bt hc5
    refine iT (vc_seqr rfl (iQ 1 (iE 14 [(0, Ia y), (2, Ba true), (5, Ba true)] [] ?_)))
    refine vc_ret (seq_r (iR (Bv true) ?_))
    exact ⟨_, rfl, ⟨fun _ => ⟨by have := h4.1 hc5; omega, .inr (h4.1 hc5)⟩, fun _ => rfl⟩⟩
theorem c_rLength {y m : Int} (h1 : 1 ≤ m) (h2 : m ≤ 12) : HasC Try.prog 85 [.v (.int .i64 y), .v (.int .i64 m)] (fun r => r = .v (.int .i64 (lenI y m))) := by
  refine HasC.of [] (fn := Try.f85) tyOk mixed (fun args w => Try.call85 args w) Try.func85 rfl (by kernel_rfl) (Nat.le_of_ble_eq_true rfl) (⟨_, rfl⟩) ?_
  refine vc_seqr rfl (iQ 1 (iE 29 [(0, Ia y), (1, Ia m), (4, Ia 0)] [] ?_))
  refine vc_seq (vc_seqr rfl (iQ 1 (iB .lss 3 (.int .i64 m) (.int .i64 1) (some 6) ?_)))
  refine all_false ((by omega)) ?_
  refine iQ 2 (iB .gtr 3 (.int .i64 m) (.int .i64 12) (some 9) ?_)
  refine all_false ((by omega)) ?_
  refine iQ 1 (iE 29 [(0, Ia y), (1, Ia m), (4, Ia 0), (10, Ba false)] [] ?_)
  refine iF (vc_skip (seq_n (vc_seq (vc_seqr rfl (iQ 1 (iB .eql 3 (.int .i64 m) (.int .i64 4) (some 12) ?_))))))
  intro c12 hc12
  refine iQ 1 ?_
  cases c12
  · replace hc12 := bf hc12
    refine iQ 1 (iB .eql 3 (.int .i64 m) (.int .i64 6) (some 15) ?_)
    intro c15 hc15
    refine iQ 2 ?_
    cases c15
    · replace hc15 := bf hc15
      refine iQ 1 (iB .eql 3 (.int .i64 m) (.int .i64 9) (some 19) ?_)
      intro c19 hc19
      refine iQ 2 ?_
      cases c19
      · replace hc19 := bf hc19
        refine iQ 1 (iB .eql 3 (.int .i64 m) (.int .i64 11) (some 23) ?_)
        intro c23 hc23
        refine iQ 1 (iE 29 [(0, Ia y), (1, Ia m), (4, Ia 0), (10, Ba false), (24, Ba c23)] [] ?_)
        cases c23
        · replace hc23 := bf hc23
          refine iF (vc_skip (seq_n (vc_seq (vc_seqr rfl (iQ 1 (iB .neq 3 (.int .i64 m) (.int .i64 2) (some 26) ?_))))))
          intro c26 hc26
          refine iE 29 [(0, Ia y), (1, Ia m), (4, Ia 0), (10, Ba false), (24, Ba false), (26, Ba c26)] [] ?_
          cases c26
          · replace hc26 := bf hc26
            refine iF (vc_skip (seq_n (vc_seq (vc_seqr rfl (iQ 1 (iC 106 [Iv y] (some 28) (c_rLeap) ?_))))))
            rintro _ ⟨lp, rfl, hlp⟩
            refine iE 29 [(1, Ia m), (4, Ia 0), (10, Ba false), (24, Ba false), (26, Ba false), (28, Ba lp)] [] ?_
            cases lp
            · replace hlp := bf hlp
              refine iF (vc_skip (seq_n (vc_seqr rfl (iQ 1 (iE 29 [(1, Ia m), (4, Ia 28), (10, Ba false), (24, Ba false), (26, Ba false), (28, Ba false)] [] ?_)))))
              refine vc_ret (iR (Iv 28) ?_)
              rw [lenI, if_neg (by omega), if_neg (by omega), if_pos (by omega), if_neg hlp]
            · replace hlp := bt hlp
              refine iT (vc_seqr rfl (iQ 1 (iE 29 [(1, Ia m), (4, Ia 29), (10, Ba false), (24, Ba false), (26, Ba false), (28, Ba true)] [] ?_)))
              refine vc_ret (seq_r (iR (Iv 29) ?_))
              rw [lenI, if_neg (by omega), if_neg (by omega), if_pos (by omega), if_pos hlp]
          · replace hc26 := bt hc26
            refine iT (vc_seqr rfl (iQ 1 (iE 29 [(0, Ia y), (1, Ia m), (4, Ia 31), (10, Ba false), (24, Ba false), (26, Ba true)] [] ?_)))
            refine vc_ret (seq_r (iR (Iv 31) ?_))
            rw [lenI, if_pos (by omega)]
        · replace hc23 := bt hc23
          refine iT (vc_seqr rfl (iQ 1 (iE 29 [(0, Ia y), (1, Ia m), (4, Ia 30), (10, Ba false), (24, Ba true)] [] ?_)))
          refine vc_ret (seq_r (iR (Iv 30) ?_))
          rw [lenI, if_neg (by omega), if_pos (by omega)]
      · replace hc19 := bt hc19
        refine iQ 3 (iE 29 [(0, Ia y), (1, Ia m), (4, Ia 0), (10, Ba false), (24, Ba true)] [] ?_)
        refine iT (vc_seqr rfl (iQ 1 (iE 29 [(0, Ia y), (1, Ia m), (4, Ia 30), (10, Ba false), (24, Ba true)] [] ?_)))
        refine vc_ret (seq_r (iR (Iv 30) ?_))
        rw [lenI, if_neg (by omega), if_pos (by omega)]
    · replace hc15 := bt hc15
      refine iQ 7 (iE 29 [(0, Ia y), (1, Ia m), (4, Ia 0), (10, Ba false), (24, Ba true)] [] ?_)
      refine iT (vc_seqr rfl (iQ 1 (iE 29 [(0, Ia y), (1, Ia m), (4, Ia 30), (10, Ba false), (24, Ba true)] [] ?_)))
      refine vc_ret (seq_r (iR (Iv 30) ?_))
      rw [lenI, if_neg (by omega), if_pos (by omega)]
  · replace hc12 := bt hc12
    refine iQ 11 (iE 29 [(0, Ia y), (1, Ia m), (4, Ia 0), (10, Ba false), (24, Ba true)] [] ?_)
    refine iT (vc_seqr rfl (iQ 1 (iE 29 [(0, Ia y), (1, Ia m), (4, Ia 30), (10, Ba false), (24, Ba true)] [] ?_)))
    refine vc_ret (seq_r (iR (Iv 30) ?_))
    rw [lenI, if_neg (by omega), if_pos (by omega)]
theorem tm_pos' {a z n : Int} (h : z = a.tmod n) (h0 : 0 ≤ a) : z = a % n := by rw [h, Int.tmod_eq_emod_of_nonneg h0]
theorem c_mkDate {y m d : Int} : HasC Try.prog 44 [.v (.int .i64 y), .v (.int .i64 m), .v (.int .i64 d)] (fun r => ∃ y' m' d', r = .agg [.v (.int .i64 y'), .v (.int .i64 m'), .v (.int .i64 d')] ∧ mayD y' m' d') := by
  refine HasC.of [] (fn := Try.f44) tyOk mixed (fun args w => Try.call44 args w) Try.func44 rfl (by kernel_rfl) (Nat.le_of_ble_eq_true rfl) (⟨_, 0, 1, 1, rfl, by decide⟩) ?_
  refine vc_seqr rfl (iQ 1 (iE 29 [(0, Ia y), (1, Ia m), (2, Ia d), (6, .p 6 0)] [(6, [Iv 0, Iv 0, Iv 0])] ?_))
  refine vc_seqr rfl (iQ 1 (iB .rem 3 (.int .i64 y) (.int .i64 1000000000) (some 9) ?_))
  refine And.intro (by omega) ?_
  intro z9 hz9
  have h9 := td_spec y (show (0 : Int) < 1000000000 by decide)
  refine iQ 1 (iE 29 [(0, Ia z9), (1, Ia m), (2, Ia d), (6, .p 6 0)] [(6, [Iv 0, Iv 0, Iv 0])] ?_)
  refine vc_seqr rfl (iQ 1 (iB .rem 3 (.int .i64 m) (.int .i64 12) (some 11) ?_))
  refine And.intro (by omega) ?_
  intro z11 hz11
  have h11 := td_spec m (show (0 : Int) < 12 by decide)
  rw [← hz9] at h9
  rw [← hz11] at h11
  refine iB .add 3 (.int .i64 z11) (.int .i64 12) (some 12) ?_
  intro z12 hz12
  try replace hz12 := hz12.i64 (by omega)
  refine iB .rem 3 (.int .i64 z12) (.int .i64 12) (some 13) ?_
  refine And.intro (by omega) ?_
  intro z13 hz13
  have h13 := tm_pos' hz13 (by omega)
  refine iB .add 3 (.int .i64 z13) (.int .i64 1) (some 14) ?_
  intro z14 hz14
  try replace hz14 := hz14.i64 (by omega)
  refine iQ 1 (iE 29 [(0, Ia z9), (1, Ia z14), (2, Ia d), (6, .p 6 0)] [(6, [Iv 0, Iv 0, Iv 0])] ?_)
  refine vc_seqr rfl (iQ 2 (iC 85 [Iv z9, Iv z14] (some 17) (c_rLength (by omega) (by omega)) ?_))
  rintro _ rfl
  have hl := lenI_ge z9 (m := z14) (by omega) (by omega)
  have hl2 := lenI_le z9 z14
  refine iQ 1 (iE 29 [(0, Ia z9), (1, Ia z14), (2, Ia d), (6, .p 6 0), (7, Ia (lenI z9 z14))] [(6, [Iv 0, Iv 0, Iv 0])] ?_)
  refine vc_seqr rfl (iQ 4 (iB .rem 3 (.int .i64 d) (.int .i64 (lenI z9 z14)) (some 22) ?_))
  refine And.intro (by omega) ?_
  intro z22 hz22
  have h22 := td_spec d (show (0 : Int) < lenI z9 z14 by omega)
  rw [← hz22] at h22
  refine iQ 1 (iB .add 3 (.int .i64 z22) (.int .i64 (lenI z9 z14)) (some 24) ?_)
  intro z24 hz24
  try replace hz24 := hz24.i64 (by omega)
  refine iQ 1 (iB .rem 3 (.int .i64 z24) (.int .i64 (lenI z9 z14)) (some 26) ?_)
  refine And.intro (by omega) ?_
  intro z26 hz26
  have h26 := td_spec z24 (show (0 : Int) < lenI z9 z14 by omega)
  rw [← hz26] at h26
  refine iB .add 3 (.int .i64 z26) (.int .i64 1) (some 27) ?_
  intro z27 hz27
  try replace hz27 := hz27.i64 (by omega)
  refine iQ 2 (iE 29 [(0, Ia z9), (1, Ia z14), (6, .p 6 0)] [(6, [Iv z9, Iv z14, Iv z27])] ?_)
  refine vc_ret (iR (.agg [Iv z9, Iv z14, Iv z27]) ?_)
  exact ⟨_, _, _, rfl, by unfold mayD; omega⟩

theorem SpanIs.of {s : Bool} {A : Nat} {e v : Int} {g : Bool} {k : Nat} (hw : wholeT 5 s A e = (g, k, 0)) (hv : sgnV g k = v) (hm : mayN v) : SpanIs s A e v true := by
  refine ⟨fun _ => ⟨?_, hm⟩, fun k => by cases k⟩
  rw [hw]
  show V g k 0 (min 0 0) = v * _
  rw [show min (0 : Int) 0 = 0 from rfl, V_own, hv]
  simp
theorem c_TimesV {n v : Int} {s : Bool} {A : Nat} {e : Int} {g : Bool} {k : Nat} {x : Int} (hM : mulT (decide (n < 0), n.natAbs, 0, true) (s, A, e, true) = (g, k, x, true)) (hm : mayN n) (hS : SpanIs g k x v true) (hA : A < E34) (h1 : -6176 ≤ e) (h2 : e ≤ 6111) :
    HasC Try.prog 36 [.v (.int .i64 n), dDec s A e] (fun y => y = .tup [.v (.int .i64 v), .v (.bool true)]) :=
  (c_Times (by unfold mayN at hm; omega) (by unfold mayN at hm; omega) hA h1 h2).mono fun y ⟨z, ok, hy, hT⟩ => by
    have h := hT.yes hm (by rw [hM])
    rw [hM] at h
    obtain ⟨h3, h4⟩ := h.fn hS
    rw [hy, h3, h4]
theorem c_OverV {n v : Int} {s : Bool} {A : Nat} {e : Int} {g : Bool} {k : Nat} {x : Int} (hM : qDivT (decide (n < 0) != s) n.natAbs A (0 - e) = (g, k, x, true)) (hm : mayN n) (hS : SpanIs g k x v true) (hA : A < E34) (h1 : -6176 ≤ e) (h2 : e ≤ 6111) :
    HasC Try.prog 37 [.v (.int .i64 n), dDec s A e] (fun y => y = .tup [.v (.int .i64 v), .v (.bool true)]) :=
  (c_Over (by unfold mayN at hm; omega) (by unfold mayN at hm; omega) hA h1 h2).mono fun y ⟨z, ok, hy, hT⟩ => by
    have h := hT.yes hm (by rw [hM])
    rw [hM] at h
    obtain ⟨h3, h4⟩ := h.fn hS
    rw [hy, h3, h4]
theorem cut_down {s : Bool} {N k Q : Nat} (h : N / 10 ^ k = Q) : cutQ 5 s N false k = Q := by
  have hu : upB 5 s N false k = false := by
    rw [← Bool.not_eq_true, upB_iff]
    unfold UpP
    simp
  unfold cutQ
  rw [hu, h]
  rfl
theorem mul_45 : mulT (false, 3, 0, true) (false, 15, -1, true) = (false, 45, -1, true) := fitT_own' (by decide) (by decide) (by decide) (by decide)
theorem down_45 : wholeT 5 false 45 (-1) = (false, 4, 0) := by
  rw [whole_low (by decide) (cut_down (by decide) : cutQ 5 false 45 false (-(-1 : Int)).toNat = 4)]
  rfl
theorem down_35 : wholeT 5 true 35 (-1) = (true, 3, 0) := by
  rw [whole_low (by decide) (cut_down (by decide) : cutQ 5 true 35 false (-(-1 : Int)).toNat = 3)]
  rfl
theorem div_7 : qDivT true 7 2 0 = (true, 35, -1, true) := qdiv_exact (j := 1) (c := 35) (by decide) (by decide) (by decide) (by have := nd_le 1 7 (by decide); unfold divN; omega) (.inr (by decide)) (by decide) (by decide) (by decide)
theorem div_14 : qDivT false 1 4 0 = (false, 25, -2, true) := qdiv_exact (j := 2) (c := 25) (by decide) (by decide) (by decide) (by have := nd_le 1 1 (by decide); unfold divN; omega) (.inr (by decide)) (by decide) (by decide) (by decide)
theorem rat_14 : ratT 1 4 = (false, 25, -2, true) := by
  rw [ratT, if_pos ⟨by decide, by decide⟩]
  exact div_14
theorem late_29 : dlT 2024 2 29 (-1) = (2024, 2, 28, true) := by decide +kernel
theorem parts_m1 {d h m s : Int} (p : PartsIs (-90061) d h m s) : d = -1 ∧ h = -1 ∧ m = -1 ∧ s = -1 := by
  obtain ⟨p1, p2, p3, p4⟩ := p
  have := p3 (by decide)
  omega

set_option maxHeartbeats 1600000 in
theorem c_awake10  : HasC Try.prog 35 [] (fun y => y = .v (.bool true)) := by
  refine HasC.of [] (fn := Try.f35) tyOk mixed (fun args w => Try.call35 args w) Try.func35 rfl (by kernel_rfl) (Nat.le_of_ble_eq_true rfl) (⟨_, rfl⟩) ?_
  refine vc_seqr rfl (iQ 1 (iE 84 [(0, Ba false)] [] ?_))
  refine vc_seqr rfl (iC 74 [Uv 15] (some 14) (cw_OfI (n := 15) rfl (by decide)) ?_)
  rintro _ rfl
  refine iQ 1 (iC 36 [Iv 3, .agg [Bv false, Hw 15, Lw 15, Iv (-1)]] (some 16) (c_TimesV (n := 3) (s := false) (A := 15) (e := -1) (g := false) (k := 45) (x := -1) (v := 4) mul_45 (by decide) (SpanIs.of down_45 rfl (by decide)) (by decide) (by decide) (by decide)) ?_)
  rintro _ rfl
  refine iQ 5 (iE 84 [(0, Ba false), (1, Ia 4), (2, Ba true)] [] ?_)
  refine vc_seqr rfl (iC 26 [Iv 2] (some 20) (c_IntV (s := false) (n := 2) (by decide) (by decide) (by decide) (by decide)) ?_)
  rintro _ rfl
  refine iC 37 [Iv (-7), .agg [Bv false, Hw 2, Lw 2, Iv 0]] (some 21) (c_OverV (n := -7) (s := false) (A := 2) (e := 0) (g := true) (k := 35) (x := -1) (v := -3) div_7 (by decide) (SpanIs.of down_35 rfl (by decide)) (by decide) (by decide) (by decide)) ?_
  rintro _ rfl
  refine iQ 5 (iE 84 [(0, Ba false), (1, Ia 4), (2, Ba true), (3, Ia (-3)), (4, Ba true)] [] ?_)
  refine vc_seqr rfl (iC 40 [Iv 1, Iv 4] (some 25) (fit_as (c_Ratio (by decide) (by decide) (by decide) (by decide)) rat_14) ?_)
  rintro _ rfl
  refine iQ 6 (iE 84 [(0, Ba false), (1, Ia 4), (2, Ba true), (3, Ia (-3)), (4, Ba true), (5, .p 5 0), (6, Ba true)] [(5, [Bv false, Hw 25, Lw 25, Iv (-2)])] ?_)
  refine vc_seqr rfl (iC 43 [Iv (-90061)] (some 29) (c_Parts (by decide) (by decide)) ?_)
  rintro _ ⟨d, h, m, s, rfl, hp⟩
  obtain ⟨p1, p2, p3, p4⟩ := parts_m1 hp
  refine iQ 9 (iE 84 [(0, Ba false), (1, Ia 4), (2, Ba true), (3, Ia (-3)), (4, Ba true), (5, .p 5 0), (6, Ba true), (7, Ia d), (8, Ia h), (9, Ia m), (10, Ia s)] [(5, [Bv false, Hw 25, Lw 25, Iv (-2)])] ?_)
  refine vc_seqr rfl (iQ 1 (iC 45 [.agg [Iv 2024, Iv 2, Iv 29], Iv (-1)] (some 36) (d4_as (c_DateLater (by decide) (by decide) (by decide)) late_29) ?_))
  rintro _ rfl
  refine iQ 6 (iE 84 [(0, Ba false), (1, Ia 4), (2, Ba true), (3, Ia (-3)), (4, Ba true), (5, .p 5 0), (6, Ba true), (7, Ia d), (8, Ia h), (9, Ia m), (10, Ia s), (11, .p 11 0), (12, Ba true)] [(5, [Bv false, Hw 25, Lw 25, Iv (-2)]), (11, [Iv 2024, Iv 2, Iv 28])] ?_)
  refine vc_seqr rfl (iQ 3 (iB .eql 3 (.int .i64 4) (.int .i64 4) (some 42) ?_))
  refine all_true (rfl) ?_
  refine iQ 6 (iB .eql 3 (.int .i64 (-3)) (.int .i64 (-3)) (some 49) ?_)
  refine all_true (rfl) ?_
  refine iQ 6 (iC 74 [Uv 25] (some 56) (cw_OfI (n := 25) rfl (by decide)) ?_)
  rintro _ rfl
  refine iQ 1 (iB .eql 28 (.agg #[.bool false, .int .u64 (hiW (25)), .int .u64 (loW (25)), .int .i64 (-2)]) (.agg #[.bool false, .int .u64 (hiW (25)), .int .u64 (loW (25)), .int .i64 (-2)]) (some 58) ?_)
  refine all_true (rfl) ?_
  refine iQ 3 (iB .eql 3 (.int .i64 d) (.int .i64 (-1)) (some 62) ?_)
  refine all_true (p1) ?_
  refine iQ 3 (iB .eql 3 (.int .i64 h) (.int .i64 (-1)) (some 66) ?_)
  refine all_true (p2) ?_
  refine iQ 3 (iB .eql 3 (.int .i64 m) (.int .i64 (-1)) (some 70) ?_)
  refine all_true (p3) ?_
  refine iQ 3 (iB .eql 3 (.int .i64 s) (.int .i64 (-1)) (some 74) ?_)
  refine all_true (p4) ?_
  refine iQ 7 (iB .eql 68 (.agg #[.int .i64 2024, .int .i64 2, .int .i64 28]) (.agg #[.int .i64 2024, .int .i64 2, .int .i64 28]) (some 82) ?_)
  intro c82 hc82
  try simp only [Array.mk.injEq, List.cons.injEq, Value.int.injEq, Value.bool.injEq, Value.string.injEq, true_and, and_true] at hc82
  refine iQ 2 (iE 84 [(0, Ba c82), (5, .p 5 0), (11, .p 11 0)] [(5, [Bv false, Hw 25, Lw 25, Iv (-2)]), (11, [Iv 2024, Iv 2, Iv 28])] ?_)
  refine vc_ret (iR (Bv c82) ?_)
  rw [hc82.2 trivial]

end Go.Proofs.Ytfjcblmmfkgkoaa
