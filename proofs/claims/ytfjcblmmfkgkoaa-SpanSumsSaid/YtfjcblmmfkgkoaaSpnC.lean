/-
  The law of durations' sums and parts: it says yes.
-/
import Derived.Test.YtfjcblmmfkgkoaaSpnB
namespace Go.Proofs.Ytfjcblmmfkgkoaa
open Go.RowKit
set_option linter.unusedVariables false
set_option linter.unusedSimpArgs false
set_option maxRecDepth 100000


set_option maxHeartbeats 3200000 in
theorem c_spanAdd {a b : Int} (ha0 : -9223372036854775808 ≤ a) (ha1 : a ≤ 9223372036854775807) (hb0 : -9223372036854775808 ≤ b) (hb1 : b ≤ 9223372036854775807) : HasC Try.prog 41 [.v (.int .i64 a), .v (.int .i64 b)] (fun r => ∃ s ok, r = .tup [.v (.int .i64 s), .v (.bool ok)] ∧ (ok = true ↔ mayN a ∧ mayN b ∧ mayN (a + b)) ∧ (ok = true → s = a + b) ∧ (ok = false → s = 0)) := by
  refine HasC.of [] (fn := Try.f41) tyOk mixed (fun args w => Try.call41 args w) Try.func41 rfl (by kernel_rfl) (Nat.le_of_ble_eq_true rfl) (⟨_, if mayN a ∧ mayN b ∧ mayN (a + b) then a + b else 0, decide (mayN a ∧ mayN b ∧ mayN (a + b)), rfl, by simp, fun h => if_pos (by simpa using h), fun h => if_neg (by simpa using h)⟩) ?_
  refine vc_seqr rfl (iQ 2 (iE 24 [(0, Ia a), (1, Ia b), (4, Ia 0), (5, Ba false)] [] ?_))
  refine vc_seq (vc_seqr rfl (iQ 1 (iC 42 [Iv a] (some 7) (c_spanMay) ?_)))
  rintro _ ⟨p, rfl, hp⟩
  refine iU .not (.bool p) (some 8) ?_
  intro c8 hc8
  refine iQ 1 ?_
  cases c8
  · replace hc8 := bf hc8
    have hp1 : mayN a := hp.1 (by simpa using hc8)
    have hp2 := hp1
    unfold mayN at hp2
    refine iQ 1 (iC 42 [Iv b] (some 11) (c_spanMay) ?_)
    rintro _ ⟨q, rfl, hq⟩
    refine iU .not (.bool q) (some 12) ?_
    intro c12 hc12
    refine iQ 2 ?_
    cases c12
    · replace hc12 := bf hc12
      have hq1 : mayN b := hq.1 (by simpa using hc12)
      have hq2 := hq1
      unfold mayN at hq2
      refine iQ 2 (iB .add 3 (.int .i64 a) (.int .i64 b) (some 17) ?_)
      intro z17 hz17
      try replace hz17 := hz17.i64 (by omega)
      refine iC 42 [Iv z17] (some 18) (c_spanMay) ?_
      rintro _ ⟨t, rfl, ht⟩
      refine iU .not (.bool t) (some 19) ?_
      intro c19 hc19
      refine iQ 1 (iE 24 [(0, Ia a), (1, Ia b), (4, Ia 0), (5, Ba false), (20, Ba c19)] [] ?_)
      cases c19
      · replace hc19 := bf hc19
        have ht1 : mayN z17 := ht.1 (by simpa using hc19)
        refine iF (vc_skip (seq_n (vc_seqr rfl (iQ 2 (iB .add 3 (.int .i64 a) (.int .i64 b) (some 23) ?_)))))
        intro z23 hz23
        try replace hz23 := hz23.i64 (by omega)
        refine iQ 2 (iE 24 [(0, Ia a), (1, Ia b), (4, Ia z23), (5, Ba true), (20, Ba false)] [] ?_)
        refine vc_ret (iS (Iv z23) (Bv true) [] ?_)
        exact ⟨_, _, rfl, ⟨fun _ => ⟨hp1, hq1, by rw [← hz17]; exact ht1⟩, fun _ => rfl⟩, fun _ => hz23, fun k => by cases k⟩
      · replace hc19 := bt hc19
        have ht1 : ¬ mayN z17 := fun k => by rw [ht.2 k] at hc19; cases hc19
        refine iT (vc_seqr rfl (iQ 2 (iE 24 [(0, Ia a), (1, Ia b), (4, Ia 0), (5, Ba false), (20, Ba true)] [] ?_)))
        refine vc_ret (seq_r (iS (Iv 0) (Bv false) [] ?_))
        exact ⟨_, _, rfl, ⟨fun k => (by cases k), fun k => absurd (by rw [hz17]; exact k.2.2) ht1⟩, fun k => (by cases k), fun _ => rfl⟩
    · replace hc12 := bt hc12
      refine iQ 6 (iE 24 [(0, Ia a), (1, Ia b), (4, Ia 0), (5, Ba false), (20, Ba true)] [] ?_)
      have hq1 : ¬ mayN b := fun k => by rw [hq.2 k] at hc12; cases hc12
      refine iT (vc_seqr rfl (iQ 2 (iE 24 [(0, Ia a), (1, Ia b), (4, Ia 0), (5, Ba false), (20, Ba true)] [] ?_)))
      refine vc_ret (seq_r (iS (Iv 0) (Bv false) [] ?_))
      exact ⟨_, _, rfl, ⟨fun k => (by cases k), fun k => absurd k.2.1 hq1⟩, fun k => (by cases k), fun _ => rfl⟩
  · replace hc8 := bt hc8
    refine iQ 11 (iE 24 [(0, Ia a), (1, Ia b), (4, Ia 0), (5, Ba false), (20, Ba true)] [] ?_)
    have hp1 : ¬ mayN a := fun k => by rw [hp.2 k] at hc8; cases hc8
    refine iT (vc_seqr rfl (iQ 2 (iE 24 [(0, Ia a), (1, Ia b), (4, Ia 0), (5, Ba false), (20, Ba true)] [] ?_)))
    refine vc_ret (seq_r (iS (Iv 0) (Bv false) [] ?_))
    exact ⟨_, _, rfl, ⟨fun k => (by cases k), fun k => absurd k.1 hp1⟩, fun k => (by cases k), fun _ => rfl⟩

set_option maxHeartbeats 3200000 in
theorem c_SpanSums {a b : Int} (ha0 : -9223372036854775808 ≤ a) (ha1 : a ≤ 9223372036854775807) (hb0 : -9223372036854775808 ≤ b) (hb1 : b ≤ 9223372036854775807) : HasC Try.prog 11 [.v (.int .i64 a), .v (.int .i64 b)] (fun y => y = .v (.bool true)) := by
  refine HasC.of [] (fn := Try.f11) tyOk mixed (fun args w => Try.call11 args w) Try.func11 rfl (by kernel_rfl) (Nat.le_of_ble_eq_true rfl) (⟨_, rfl⟩) ?_
  refine vc_seqr rfl (iQ 1 (iE 141 [(0, Ia a), (1, Ia b), (4, Ba false)] [] ?_))
  refine vc_seq (vc_seqr rfl (iC 35 [] (some 12) (c_awake10) ?_))
  rintro _ rfl
  refine iU .not (.bool true) (some 13) ?_
  refine all_false ((by simp)) ?_
  refine iE 141 [(0, Ia a), (1, Ia b), (4, Ba false), (13, Ba false)] [] ?_
  refine iF (vc_skip (seq_n (vc_seqr rfl (iQ 2 (iC 41 [Iv a, Iv b] (some 17) (c_spanAdd ha0 ha1 hb0 hb1) ?_)))))
  rintro _ ⟨s, ok, rfl, k1, k2, k3⟩
  refine iQ 5 (iE 141 [(0, Ia a), (1, Ia b), (4, Ba false), (5, Ia s), (6, Ba ok), (13, Ba false)] [] ?_)
  refine vc_seqr rfl (iQ 1 (iC 39 [Iv a] (some 21) (c_lawMay) ?_))
  rintro _ ⟨p1, rfl, hp1⟩
  refine iQ 1 ?_
  cases p1
  · replace hp1 := bf hp1
    refine iQ 10 (iE 141 [(0, Ia a), (1, Ia b), (4, Ba false), (5, Ia s), (6, Ba ok), (7, Ba false), (13, Ba false)] [] ?_)
    have hIS : false = true ↔ mayN a ∧ mayN b ∧ mayN (a + b) := ⟨fun k => (by cases k), fun k => absurd k.1 hp1⟩
    have hok : ok = false := by rw [Bool.eq_iff_iff, k1, hIS]
    refine vc_seq (vc_seqr rfl (iQ 1 (iC 42 [Iv a] (some 33) (c_spanMay) ?_)))
    rintro _ ⟨p, rfl, hp⟩
    refine iQ 1 (iC 39 [Iv a] (some 35) (c_lawMay) ?_)
    rintro _ ⟨q, rfl, hq⟩
    refine iB .neq 4 (.bool p) (.bool q) (some 36) ?_
    refine all_false ((by rw [Ne, Decidable.not_not, Bool.eq_iff_iff, hp, hq])) ?_
    refine iQ 3 (iB .neq 4 (.bool ok) (.bool false) (some 40) ?_)
    refine all_false ((by rw [Ne, Decidable.not_not]; exact hok)) ?_
    refine iQ 4 ?_
    cases ok
    · skip
      refine iQ 9 (iU .not (.bool false) (some 54) ?_)
      refine all_true (rfl) ?_
      refine iQ 2 (iB .neq 3 (.int .i64 s) (.int .i64 0) (some 57) ?_)
      refine all_false ((by rw [Ne, Decidable.not_not]; exact k3 rfl)) ?_
      refine iQ 2 (iE 141 [(0, Ia a), (1, Ia b), (4, Ba false), (13, Ba false), (59, Ba false)] [] ?_)
      refine iF (vc_skip (seq_n (vc_seqr rfl (iQ 1 (iC 43 [Iv a] (some 62) (c_Parts ha0 ha1) ?_)))))
      rintro _ ⟨d, h, m, c, rfl, hP⟩
      obtain ⟨s1, s2, s3, s4⟩ := hP
      refine iQ 9 (iE 141 [(0, Ia a), (1, Ia b), (4, Ba false), (8, Ia d), (9, Ia h), (10, Ia m), (11, Ia c), (13, Ba false), (59, Ba false)] [] ?_)
      refine vc_seq (vc_seqr rfl (iQ 1 (iB .gtr 3 (.int .i64 a) (.int .i64 0) (some 68) ?_)))
      intro c68 hc68
      refine iQ 1 ?_
      cases c68
      · replace hc68 := bf hc68
        refine iQ 17 (iB .lss 3 (.int .i64 a) (.int .i64 0) (some 87) ?_)
        intro c87 hc87
        refine iQ 1 ?_
        cases c87
        · replace hc87 := bf hc87
          refine iQ 16 (iE 141 [(0, Ia a), (1, Ia b), (4, Ba false), (8, Ia d), (9, Ia h), (10, Ia m), (11, Ia c), (13, Ba false), (59, Ba false), (104, Ba false)] [] ?_)
          refine iF (vc_skip (seq_n (vc_seqr rfl (iQ 1 (iB .mul 3 (.int .i64 86400) (.int .i64 d) (some 106) ?_)))))
          intro z106 hz106
          try replace hz106 := hz106.i64 (by omega)
          refine iQ 1 (iB .mul 3 (.int .i64 3600) (.int .i64 h) (some 108) ?_)
          intro z108 hz108
          try replace hz108 := hz108.i64 (by omega)
          refine iB .add 3 (.int .i64 z106) (.int .i64 z108) (some 109) ?_
          intro z109 hz109
          try replace hz109 := hz109.i64 (by omega)
          refine iQ 1 (iB .mul 3 (.int .i64 60) (.int .i64 m) (some 111) ?_)
          intro z111 hz111
          try replace hz111 := hz111.i64 (by omega)
          refine iB .add 3 (.int .i64 z109) (.int .i64 z111) (some 112) ?_
          intro z112 hz112
          try replace hz112 := hz112.i64 (by omega)
          refine iQ 1 (iB .add 3 (.int .i64 z112) (.int .i64 c) (some 114) ?_)
          intro z114 hz114
          try replace hz114 := hz114.i64 (by omega)
          have h114 : z114 = a := by omega
          refine iQ 1 (iB .eql 3 (.int .i64 z114) (.int .i64 a) (some 116) ?_)
          refine all_true (h114) ?_
          refine iQ 2 (iB .gtr 3 (.int .i64 h) (.int .i64 (-24)) (some 119) ?_)
          refine all_true ((by omega)) ?_
          refine iQ 3 (iB .lss 3 (.int .i64 h) (.int .i64 24) (some 123) ?_)
          refine all_true ((by omega)) ?_
          refine iQ 3 (iB .gtr 3 (.int .i64 m) (.int .i64 (-60)) (some 127) ?_)
          refine all_true ((by omega)) ?_
          refine iQ 3 (iB .lss 3 (.int .i64 m) (.int .i64 60) (some 131) ?_)
          refine all_true ((by omega)) ?_
          refine iQ 3 (iB .gtr 3 (.int .i64 c) (.int .i64 (-60)) (some 135) ?_)
          refine all_true ((by omega)) ?_
          refine iQ 3 (iB .lss 3 (.int .i64 c) (.int .i64 60) (some 139) ?_)
          intro c139 hc139
          refine iQ 2 (iE 141 [(0, Ia a), (1, Ia b), (4, Ba c139), (8, Ia d), (9, Ia h), (10, Ia m), (11, Ia c), (13, Ba false), (59, Ba false), (104, Ba false)] [] ?_)
          refine vc_ret (iR (Bv c139) ?_)
          rw [hc139.2 (by omega)]
        · replace hc87 := bt hc87
          refine iQ 1 (iB .gtr 3 (.int .i64 d) (.int .i64 0) (some 90) ?_)
          have s3' := s3 (by omega)
          refine all_false ((by omega)) ?_
          refine iQ 2 (iB .gtr 3 (.int .i64 h) (.int .i64 0) (some 93) ?_)
          refine all_false ((by omega)) ?_
          refine iQ 3 (iB .gtr 3 (.int .i64 m) (.int .i64 0) (some 97) ?_)
          refine all_false ((by omega)) ?_
          refine iQ 3 (iB .gtr 3 (.int .i64 c) (.int .i64 0) (some 101) ?_)
          refine all_false ((by omega)) ?_
          refine iQ 3 (iE 141 [(0, Ia a), (1, Ia b), (4, Ba false), (8, Ia d), (9, Ia h), (10, Ia m), (11, Ia c), (13, Ba false), (59, Ba false), (104, Ba false)] [] ?_)
          refine iF (vc_skip (seq_n (vc_seqr rfl (iQ 1 (iB .mul 3 (.int .i64 86400) (.int .i64 d) (some 106) ?_)))))
          intro z106 hz106
          try replace hz106 := hz106.i64 (by omega)
          refine iQ 1 (iB .mul 3 (.int .i64 3600) (.int .i64 h) (some 108) ?_)
          intro z108 hz108
          try replace hz108 := hz108.i64 (by omega)
          refine iB .add 3 (.int .i64 z106) (.int .i64 z108) (some 109) ?_
          intro z109 hz109
          try replace hz109 := hz109.i64 (by omega)
          refine iQ 1 (iB .mul 3 (.int .i64 60) (.int .i64 m) (some 111) ?_)
          intro z111 hz111
          try replace hz111 := hz111.i64 (by omega)
          refine iB .add 3 (.int .i64 z109) (.int .i64 z111) (some 112) ?_
          intro z112 hz112
          try replace hz112 := hz112.i64 (by omega)
          refine iQ 1 (iB .add 3 (.int .i64 z112) (.int .i64 c) (some 114) ?_)
          intro z114 hz114
          try replace hz114 := hz114.i64 (by omega)
          have h114 : z114 = a := by omega
          refine iQ 1 (iB .eql 3 (.int .i64 z114) (.int .i64 a) (some 116) ?_)
          refine all_true (h114) ?_
          refine iQ 2 (iB .gtr 3 (.int .i64 h) (.int .i64 (-24)) (some 119) ?_)
          refine all_true ((by omega)) ?_
          refine iQ 3 (iB .lss 3 (.int .i64 h) (.int .i64 24) (some 123) ?_)
          refine all_true ((by omega)) ?_
          refine iQ 3 (iB .gtr 3 (.int .i64 m) (.int .i64 (-60)) (some 127) ?_)
          refine all_true ((by omega)) ?_
          refine iQ 3 (iB .lss 3 (.int .i64 m) (.int .i64 60) (some 131) ?_)
          refine all_true ((by omega)) ?_
          refine iQ 3 (iB .gtr 3 (.int .i64 c) (.int .i64 (-60)) (some 135) ?_)
          refine all_true ((by omega)) ?_
          refine iQ 3 (iB .lss 3 (.int .i64 c) (.int .i64 60) (some 139) ?_)
          intro c139 hc139
          refine iQ 2 (iE 141 [(0, Ia a), (1, Ia b), (4, Ba c139), (8, Ia d), (9, Ia h), (10, Ia m), (11, Ia c), (13, Ba false), (59, Ba false), (104, Ba false)] [] ?_)
          refine vc_ret (iR (Bv c139) ?_)
          rw [hc139.2 (by omega)]
      · replace hc68 := bt hc68
        refine iQ 1 (iB .lss 3 (.int .i64 d) (.int .i64 0) (some 71) ?_)
        have s2' := s2 (by omega)
        refine all_false ((by omega)) ?_
        refine iQ 2 (iB .lss 3 (.int .i64 h) (.int .i64 0) (some 74) ?_)
        refine all_false ((by omega)) ?_
        refine iQ 3 (iB .lss 3 (.int .i64 m) (.int .i64 0) (some 78) ?_)
        refine all_false ((by omega)) ?_
        refine iQ 3 (iB .lss 3 (.int .i64 c) (.int .i64 0) (some 82) ?_)
        refine all_false ((by omega)) ?_
        refine iQ 4 (iB .lss 3 (.int .i64 a) (.int .i64 0) (some 87) ?_)
        refine all_false ((by omega)) ?_
        refine iQ 17 (iE 141 [(0, Ia a), (1, Ia b), (4, Ba false), (8, Ia d), (9, Ia h), (10, Ia m), (11, Ia c), (13, Ba false), (59, Ba false), (104, Ba false)] [] ?_)
        refine iF (vc_skip (seq_n (vc_seqr rfl (iQ 1 (iB .mul 3 (.int .i64 86400) (.int .i64 d) (some 106) ?_)))))
        intro z106 hz106
        try replace hz106 := hz106.i64 (by omega)
        refine iQ 1 (iB .mul 3 (.int .i64 3600) (.int .i64 h) (some 108) ?_)
        intro z108 hz108
        try replace hz108 := hz108.i64 (by omega)
        refine iB .add 3 (.int .i64 z106) (.int .i64 z108) (some 109) ?_
        intro z109 hz109
        try replace hz109 := hz109.i64 (by omega)
        refine iQ 1 (iB .mul 3 (.int .i64 60) (.int .i64 m) (some 111) ?_)
        intro z111 hz111
        try replace hz111 := hz111.i64 (by omega)
        refine iB .add 3 (.int .i64 z109) (.int .i64 z111) (some 112) ?_
        intro z112 hz112
        try replace hz112 := hz112.i64 (by omega)
        refine iQ 1 (iB .add 3 (.int .i64 z112) (.int .i64 c) (some 114) ?_)
        intro z114 hz114
        try replace hz114 := hz114.i64 (by omega)
        have h114 : z114 = a := by omega
        refine iQ 1 (iB .eql 3 (.int .i64 z114) (.int .i64 a) (some 116) ?_)
        refine all_true (h114) ?_
        refine iQ 2 (iB .gtr 3 (.int .i64 h) (.int .i64 (-24)) (some 119) ?_)
        refine all_true ((by omega)) ?_
        refine iQ 3 (iB .lss 3 (.int .i64 h) (.int .i64 24) (some 123) ?_)
        refine all_true ((by omega)) ?_
        refine iQ 3 (iB .gtr 3 (.int .i64 m) (.int .i64 (-60)) (some 127) ?_)
        refine all_true ((by omega)) ?_
        refine iQ 3 (iB .lss 3 (.int .i64 m) (.int .i64 60) (some 131) ?_)
        refine all_true ((by omega)) ?_
        refine iQ 3 (iB .gtr 3 (.int .i64 c) (.int .i64 (-60)) (some 135) ?_)
        refine all_true ((by omega)) ?_
        refine iQ 3 (iB .lss 3 (.int .i64 c) (.int .i64 60) (some 139) ?_)
        intro c139 hc139
        refine iQ 2 (iE 141 [(0, Ia a), (1, Ia b), (4, Ba c139), (8, Ia d), (9, Ia h), (10, Ia m), (11, Ia c), (13, Ba false), (59, Ba false), (104, Ba false)] [] ?_)
        refine vc_ret (iR (Bv c139) ?_)
        rw [hc139.2 (by omega)]
    · skip
      refine iQ 3 (iB .add 3 (.int .i64 a) (.int .i64 b) (some 48) ?_)
      intro z48 hz48
      try replace hz48 := hz48.i64 (by omega)
      have h48 : s = z48 := by have e1 := k2 rfl; obtain ⟨m1, m2, m3⟩ := k1.1 rfl; unfold mayN at m1 m2; first | omega | (rw [hz48.i64 (by omega)]; exact e1)
      refine iB .neq 3 (.int .i64 s) (.int .i64 z48) (some 49) ?_
      refine all_false ((by rw [Ne, Decidable.not_not]; exact h48)) ?_
      refine iQ 4 (iU .not (.bool true) (some 54) ?_)
      refine all_false ((by simp)) ?_
      refine iQ 5 (iE 141 [(0, Ia a), (1, Ia b), (4, Ba false), (13, Ba false), (59, Ba false)] [] ?_)
      refine iF (vc_skip (seq_n (vc_seqr rfl (iQ 1 (iC 43 [Iv a] (some 62) (c_Parts ha0 ha1) ?_)))))
      rintro _ ⟨d, h, m, c, rfl, hP⟩
      obtain ⟨s1, s2, s3, s4⟩ := hP
      refine iQ 9 (iE 141 [(0, Ia a), (1, Ia b), (4, Ba false), (8, Ia d), (9, Ia h), (10, Ia m), (11, Ia c), (13, Ba false), (59, Ba false)] [] ?_)
      refine vc_seq (vc_seqr rfl (iQ 1 (iB .gtr 3 (.int .i64 a) (.int .i64 0) (some 68) ?_)))
      intro c68 hc68
      refine iQ 1 ?_
      cases c68
      · replace hc68 := bf hc68
        refine iQ 17 (iB .lss 3 (.int .i64 a) (.int .i64 0) (some 87) ?_)
        intro c87 hc87
        refine iQ 1 ?_
        cases c87
        · replace hc87 := bf hc87
          refine iQ 16 (iE 141 [(0, Ia a), (1, Ia b), (4, Ba false), (8, Ia d), (9, Ia h), (10, Ia m), (11, Ia c), (13, Ba false), (59, Ba false), (104, Ba false)] [] ?_)
          refine iF (vc_skip (seq_n (vc_seqr rfl (iQ 1 (iB .mul 3 (.int .i64 86400) (.int .i64 d) (some 106) ?_)))))
          intro z106 hz106
          try replace hz106 := hz106.i64 (by omega)
          refine iQ 1 (iB .mul 3 (.int .i64 3600) (.int .i64 h) (some 108) ?_)
          intro z108 hz108
          try replace hz108 := hz108.i64 (by omega)
          refine iB .add 3 (.int .i64 z106) (.int .i64 z108) (some 109) ?_
          intro z109 hz109
          try replace hz109 := hz109.i64 (by omega)
          refine iQ 1 (iB .mul 3 (.int .i64 60) (.int .i64 m) (some 111) ?_)
          intro z111 hz111
          try replace hz111 := hz111.i64 (by omega)
          refine iB .add 3 (.int .i64 z109) (.int .i64 z111) (some 112) ?_
          intro z112 hz112
          try replace hz112 := hz112.i64 (by omega)
          refine iQ 1 (iB .add 3 (.int .i64 z112) (.int .i64 c) (some 114) ?_)
          intro z114 hz114
          try replace hz114 := hz114.i64 (by omega)
          have h114 : z114 = a := by omega
          refine iQ 1 (iB .eql 3 (.int .i64 z114) (.int .i64 a) (some 116) ?_)
          refine all_true (h114) ?_
          refine iQ 2 (iB .gtr 3 (.int .i64 h) (.int .i64 (-24)) (some 119) ?_)
          refine all_true ((by omega)) ?_
          refine iQ 3 (iB .lss 3 (.int .i64 h) (.int .i64 24) (some 123) ?_)
          refine all_true ((by omega)) ?_
          refine iQ 3 (iB .gtr 3 (.int .i64 m) (.int .i64 (-60)) (some 127) ?_)
          refine all_true ((by omega)) ?_
          refine iQ 3 (iB .lss 3 (.int .i64 m) (.int .i64 60) (some 131) ?_)
          refine all_true ((by omega)) ?_
          refine iQ 3 (iB .gtr 3 (.int .i64 c) (.int .i64 (-60)) (some 135) ?_)
          refine all_true ((by omega)) ?_
          refine iQ 3 (iB .lss 3 (.int .i64 c) (.int .i64 60) (some 139) ?_)
          intro c139 hc139
          refine iQ 2 (iE 141 [(0, Ia a), (1, Ia b), (4, Ba c139), (8, Ia d), (9, Ia h), (10, Ia m), (11, Ia c), (13, Ba false), (59, Ba false), (104, Ba false)] [] ?_)
          refine vc_ret (iR (Bv c139) ?_)
          rw [hc139.2 (by omega)]
        · replace hc87 := bt hc87
          refine iQ 1 (iB .gtr 3 (.int .i64 d) (.int .i64 0) (some 90) ?_)
          have s3' := s3 (by omega)
          refine all_false ((by omega)) ?_
          refine iQ 2 (iB .gtr 3 (.int .i64 h) (.int .i64 0) (some 93) ?_)
          refine all_false ((by omega)) ?_
          refine iQ 3 (iB .gtr 3 (.int .i64 m) (.int .i64 0) (some 97) ?_)
          refine all_false ((by omega)) ?_
          refine iQ 3 (iB .gtr 3 (.int .i64 c) (.int .i64 0) (some 101) ?_)
          refine all_false ((by omega)) ?_
          refine iQ 3 (iE 141 [(0, Ia a), (1, Ia b), (4, Ba false), (8, Ia d), (9, Ia h), (10, Ia m), (11, Ia c), (13, Ba false), (59, Ba false), (104, Ba false)] [] ?_)
          refine iF (vc_skip (seq_n (vc_seqr rfl (iQ 1 (iB .mul 3 (.int .i64 86400) (.int .i64 d) (some 106) ?_)))))
          intro z106 hz106
          try replace hz106 := hz106.i64 (by omega)
          refine iQ 1 (iB .mul 3 (.int .i64 3600) (.int .i64 h) (some 108) ?_)
          intro z108 hz108
          try replace hz108 := hz108.i64 (by omega)
          refine iB .add 3 (.int .i64 z106) (.int .i64 z108) (some 109) ?_
          intro z109 hz109
          try replace hz109 := hz109.i64 (by omega)
          refine iQ 1 (iB .mul 3 (.int .i64 60) (.int .i64 m) (some 111) ?_)
          intro z111 hz111
          try replace hz111 := hz111.i64 (by omega)
          refine iB .add 3 (.int .i64 z109) (.int .i64 z111) (some 112) ?_
          intro z112 hz112
          try replace hz112 := hz112.i64 (by omega)
          refine iQ 1 (iB .add 3 (.int .i64 z112) (.int .i64 c) (some 114) ?_)
          intro z114 hz114
          try replace hz114 := hz114.i64 (by omega)
          have h114 : z114 = a := by omega
          refine iQ 1 (iB .eql 3 (.int .i64 z114) (.int .i64 a) (some 116) ?_)
          refine all_true (h114) ?_
          refine iQ 2 (iB .gtr 3 (.int .i64 h) (.int .i64 (-24)) (some 119) ?_)
          refine all_true ((by omega)) ?_
          refine iQ 3 (iB .lss 3 (.int .i64 h) (.int .i64 24) (some 123) ?_)
          refine all_true ((by omega)) ?_
          refine iQ 3 (iB .gtr 3 (.int .i64 m) (.int .i64 (-60)) (some 127) ?_)
          refine all_true ((by omega)) ?_
          refine iQ 3 (iB .lss 3 (.int .i64 m) (.int .i64 60) (some 131) ?_)
          refine all_true ((by omega)) ?_
          refine iQ 3 (iB .gtr 3 (.int .i64 c) (.int .i64 (-60)) (some 135) ?_)
          refine all_true ((by omega)) ?_
          refine iQ 3 (iB .lss 3 (.int .i64 c) (.int .i64 60) (some 139) ?_)
          intro c139 hc139
          refine iQ 2 (iE 141 [(0, Ia a), (1, Ia b), (4, Ba c139), (8, Ia d), (9, Ia h), (10, Ia m), (11, Ia c), (13, Ba false), (59, Ba false), (104, Ba false)] [] ?_)
          refine vc_ret (iR (Bv c139) ?_)
          rw [hc139.2 (by omega)]
      · replace hc68 := bt hc68
        refine iQ 1 (iB .lss 3 (.int .i64 d) (.int .i64 0) (some 71) ?_)
        have s2' := s2 (by omega)
        refine all_false ((by omega)) ?_
        refine iQ 2 (iB .lss 3 (.int .i64 h) (.int .i64 0) (some 74) ?_)
        refine all_false ((by omega)) ?_
        refine iQ 3 (iB .lss 3 (.int .i64 m) (.int .i64 0) (some 78) ?_)
        refine all_false ((by omega)) ?_
        refine iQ 3 (iB .lss 3 (.int .i64 c) (.int .i64 0) (some 82) ?_)
        refine all_false ((by omega)) ?_
        refine iQ 4 (iB .lss 3 (.int .i64 a) (.int .i64 0) (some 87) ?_)
        refine all_false ((by omega)) ?_
        refine iQ 17 (iE 141 [(0, Ia a), (1, Ia b), (4, Ba false), (8, Ia d), (9, Ia h), (10, Ia m), (11, Ia c), (13, Ba false), (59, Ba false), (104, Ba false)] [] ?_)
        refine iF (vc_skip (seq_n (vc_seqr rfl (iQ 1 (iB .mul 3 (.int .i64 86400) (.int .i64 d) (some 106) ?_)))))
        intro z106 hz106
        try replace hz106 := hz106.i64 (by omega)
        refine iQ 1 (iB .mul 3 (.int .i64 3600) (.int .i64 h) (some 108) ?_)
        intro z108 hz108
        try replace hz108 := hz108.i64 (by omega)
        refine iB .add 3 (.int .i64 z106) (.int .i64 z108) (some 109) ?_
        intro z109 hz109
        try replace hz109 := hz109.i64 (by omega)
        refine iQ 1 (iB .mul 3 (.int .i64 60) (.int .i64 m) (some 111) ?_)
        intro z111 hz111
        try replace hz111 := hz111.i64 (by omega)
        refine iB .add 3 (.int .i64 z109) (.int .i64 z111) (some 112) ?_
        intro z112 hz112
        try replace hz112 := hz112.i64 (by omega)
        refine iQ 1 (iB .add 3 (.int .i64 z112) (.int .i64 c) (some 114) ?_)
        intro z114 hz114
        try replace hz114 := hz114.i64 (by omega)
        have h114 : z114 = a := by omega
        refine iQ 1 (iB .eql 3 (.int .i64 z114) (.int .i64 a) (some 116) ?_)
        refine all_true (h114) ?_
        refine iQ 2 (iB .gtr 3 (.int .i64 h) (.int .i64 (-24)) (some 119) ?_)
        refine all_true ((by omega)) ?_
        refine iQ 3 (iB .lss 3 (.int .i64 h) (.int .i64 24) (some 123) ?_)
        refine all_true ((by omega)) ?_
        refine iQ 3 (iB .gtr 3 (.int .i64 m) (.int .i64 (-60)) (some 127) ?_)
        refine all_true ((by omega)) ?_
        refine iQ 3 (iB .lss 3 (.int .i64 m) (.int .i64 60) (some 131) ?_)
        refine all_true ((by omega)) ?_
        refine iQ 3 (iB .gtr 3 (.int .i64 c) (.int .i64 (-60)) (some 135) ?_)
        refine all_true ((by omega)) ?_
        refine iQ 3 (iB .lss 3 (.int .i64 c) (.int .i64 60) (some 139) ?_)
        intro c139 hc139
        refine iQ 2 (iE 141 [(0, Ia a), (1, Ia b), (4, Ba c139), (8, Ia d), (9, Ia h), (10, Ia m), (11, Ia c), (13, Ba false), (59, Ba false), (104, Ba false)] [] ?_)
        refine vc_ret (iR (Bv c139) ?_)
        rw [hc139.2 (by omega)]
  · replace hp1 := bt hp1
    refine iQ 1 (iC 39 [Iv b] (some 24) (c_lawMay) ?_)
    rintro _ ⟨p2, rfl, hp2⟩
    refine iQ 2 ?_
    cases p2
    · replace hp2 := bf hp2
      refine iQ 6 (iE 141 [(0, Ia a), (1, Ia b), (4, Ba false), (5, Ia s), (6, Ba ok), (7, Ba false), (13, Ba false)] [] ?_)
      have hIS : false = true ↔ mayN a ∧ mayN b ∧ mayN (a + b) := ⟨fun k => (by cases k), fun k => absurd k.2.1 hp2⟩
      have hok : ok = false := by rw [Bool.eq_iff_iff, k1, hIS]
      refine vc_seq (vc_seqr rfl (iQ 1 (iC 42 [Iv a] (some 33) (c_spanMay) ?_)))
      rintro _ ⟨p, rfl, hp⟩
      refine iQ 1 (iC 39 [Iv a] (some 35) (c_lawMay) ?_)
      rintro _ ⟨q, rfl, hq⟩
      refine iB .neq 4 (.bool p) (.bool q) (some 36) ?_
      refine all_false ((by rw [Ne, Decidable.not_not, Bool.eq_iff_iff, hp, hq])) ?_
      refine iQ 3 (iB .neq 4 (.bool ok) (.bool false) (some 40) ?_)
      refine all_false ((by rw [Ne, Decidable.not_not]; exact hok)) ?_
      refine iQ 4 ?_
      cases ok
      · skip
        refine iQ 9 (iU .not (.bool false) (some 54) ?_)
        refine all_true (rfl) ?_
        refine iQ 2 (iB .neq 3 (.int .i64 s) (.int .i64 0) (some 57) ?_)
        refine all_false ((by rw [Ne, Decidable.not_not]; exact k3 rfl)) ?_
        refine iQ 2 (iE 141 [(0, Ia a), (1, Ia b), (4, Ba false), (13, Ba false), (59, Ba false)] [] ?_)
        refine iF (vc_skip (seq_n (vc_seqr rfl (iQ 1 (iC 43 [Iv a] (some 62) (c_Parts ha0 ha1) ?_)))))
        rintro _ ⟨d, h, m, c, rfl, hP⟩
        obtain ⟨s1, s2, s3, s4⟩ := hP
        refine iQ 9 (iE 141 [(0, Ia a), (1, Ia b), (4, Ba false), (8, Ia d), (9, Ia h), (10, Ia m), (11, Ia c), (13, Ba false), (59, Ba false)] [] ?_)
        refine vc_seq (vc_seqr rfl (iQ 1 (iB .gtr 3 (.int .i64 a) (.int .i64 0) (some 68) ?_)))
        intro c68 hc68
        refine iQ 1 ?_
        cases c68
        · replace hc68 := bf hc68
          refine iQ 17 (iB .lss 3 (.int .i64 a) (.int .i64 0) (some 87) ?_)
          intro c87 hc87
          refine iQ 1 ?_
          cases c87
          · replace hc87 := bf hc87
            refine iQ 16 (iE 141 [(0, Ia a), (1, Ia b), (4, Ba false), (8, Ia d), (9, Ia h), (10, Ia m), (11, Ia c), (13, Ba false), (59, Ba false), (104, Ba false)] [] ?_)
            refine iF (vc_skip (seq_n (vc_seqr rfl (iQ 1 (iB .mul 3 (.int .i64 86400) (.int .i64 d) (some 106) ?_)))))
            intro z106 hz106
            try replace hz106 := hz106.i64 (by omega)
            refine iQ 1 (iB .mul 3 (.int .i64 3600) (.int .i64 h) (some 108) ?_)
            intro z108 hz108
            try replace hz108 := hz108.i64 (by omega)
            refine iB .add 3 (.int .i64 z106) (.int .i64 z108) (some 109) ?_
            intro z109 hz109
            try replace hz109 := hz109.i64 (by omega)
            refine iQ 1 (iB .mul 3 (.int .i64 60) (.int .i64 m) (some 111) ?_)
            intro z111 hz111
            try replace hz111 := hz111.i64 (by omega)
            refine iB .add 3 (.int .i64 z109) (.int .i64 z111) (some 112) ?_
            intro z112 hz112
            try replace hz112 := hz112.i64 (by omega)
            refine iQ 1 (iB .add 3 (.int .i64 z112) (.int .i64 c) (some 114) ?_)
            intro z114 hz114
            try replace hz114 := hz114.i64 (by omega)
            have h114 : z114 = a := by omega
            refine iQ 1 (iB .eql 3 (.int .i64 z114) (.int .i64 a) (some 116) ?_)
            refine all_true (h114) ?_
            refine iQ 2 (iB .gtr 3 (.int .i64 h) (.int .i64 (-24)) (some 119) ?_)
            refine all_true ((by omega)) ?_
            refine iQ 3 (iB .lss 3 (.int .i64 h) (.int .i64 24) (some 123) ?_)
            refine all_true ((by omega)) ?_
            refine iQ 3 (iB .gtr 3 (.int .i64 m) (.int .i64 (-60)) (some 127) ?_)
            refine all_true ((by omega)) ?_
            refine iQ 3 (iB .lss 3 (.int .i64 m) (.int .i64 60) (some 131) ?_)
            refine all_true ((by omega)) ?_
            refine iQ 3 (iB .gtr 3 (.int .i64 c) (.int .i64 (-60)) (some 135) ?_)
            refine all_true ((by omega)) ?_
            refine iQ 3 (iB .lss 3 (.int .i64 c) (.int .i64 60) (some 139) ?_)
            intro c139 hc139
            refine iQ 2 (iE 141 [(0, Ia a), (1, Ia b), (4, Ba c139), (8, Ia d), (9, Ia h), (10, Ia m), (11, Ia c), (13, Ba false), (59, Ba false), (104, Ba false)] [] ?_)
            refine vc_ret (iR (Bv c139) ?_)
            rw [hc139.2 (by omega)]
          · replace hc87 := bt hc87
            refine iQ 1 (iB .gtr 3 (.int .i64 d) (.int .i64 0) (some 90) ?_)
            have s3' := s3 (by omega)
            refine all_false ((by omega)) ?_
            refine iQ 2 (iB .gtr 3 (.int .i64 h) (.int .i64 0) (some 93) ?_)
            refine all_false ((by omega)) ?_
            refine iQ 3 (iB .gtr 3 (.int .i64 m) (.int .i64 0) (some 97) ?_)
            refine all_false ((by omega)) ?_
            refine iQ 3 (iB .gtr 3 (.int .i64 c) (.int .i64 0) (some 101) ?_)
            refine all_false ((by omega)) ?_
            refine iQ 3 (iE 141 [(0, Ia a), (1, Ia b), (4, Ba false), (8, Ia d), (9, Ia h), (10, Ia m), (11, Ia c), (13, Ba false), (59, Ba false), (104, Ba false)] [] ?_)
            refine iF (vc_skip (seq_n (vc_seqr rfl (iQ 1 (iB .mul 3 (.int .i64 86400) (.int .i64 d) (some 106) ?_)))))
            intro z106 hz106
            try replace hz106 := hz106.i64 (by omega)
            refine iQ 1 (iB .mul 3 (.int .i64 3600) (.int .i64 h) (some 108) ?_)
            intro z108 hz108
            try replace hz108 := hz108.i64 (by omega)
            refine iB .add 3 (.int .i64 z106) (.int .i64 z108) (some 109) ?_
            intro z109 hz109
            try replace hz109 := hz109.i64 (by omega)
            refine iQ 1 (iB .mul 3 (.int .i64 60) (.int .i64 m) (some 111) ?_)
            intro z111 hz111
            try replace hz111 := hz111.i64 (by omega)
            refine iB .add 3 (.int .i64 z109) (.int .i64 z111) (some 112) ?_
            intro z112 hz112
            try replace hz112 := hz112.i64 (by omega)
            refine iQ 1 (iB .add 3 (.int .i64 z112) (.int .i64 c) (some 114) ?_)
            intro z114 hz114
            try replace hz114 := hz114.i64 (by omega)
            have h114 : z114 = a := by omega
            refine iQ 1 (iB .eql 3 (.int .i64 z114) (.int .i64 a) (some 116) ?_)
            refine all_true (h114) ?_
            refine iQ 2 (iB .gtr 3 (.int .i64 h) (.int .i64 (-24)) (some 119) ?_)
            refine all_true ((by omega)) ?_
            refine iQ 3 (iB .lss 3 (.int .i64 h) (.int .i64 24) (some 123) ?_)
            refine all_true ((by omega)) ?_
            refine iQ 3 (iB .gtr 3 (.int .i64 m) (.int .i64 (-60)) (some 127) ?_)
            refine all_true ((by omega)) ?_
            refine iQ 3 (iB .lss 3 (.int .i64 m) (.int .i64 60) (some 131) ?_)
            refine all_true ((by omega)) ?_
            refine iQ 3 (iB .gtr 3 (.int .i64 c) (.int .i64 (-60)) (some 135) ?_)
            refine all_true ((by omega)) ?_
            refine iQ 3 (iB .lss 3 (.int .i64 c) (.int .i64 60) (some 139) ?_)
            intro c139 hc139
            refine iQ 2 (iE 141 [(0, Ia a), (1, Ia b), (4, Ba c139), (8, Ia d), (9, Ia h), (10, Ia m), (11, Ia c), (13, Ba false), (59, Ba false), (104, Ba false)] [] ?_)
            refine vc_ret (iR (Bv c139) ?_)
            rw [hc139.2 (by omega)]
        · replace hc68 := bt hc68
          refine iQ 1 (iB .lss 3 (.int .i64 d) (.int .i64 0) (some 71) ?_)
          have s2' := s2 (by omega)
          refine all_false ((by omega)) ?_
          refine iQ 2 (iB .lss 3 (.int .i64 h) (.int .i64 0) (some 74) ?_)
          refine all_false ((by omega)) ?_
          refine iQ 3 (iB .lss 3 (.int .i64 m) (.int .i64 0) (some 78) ?_)
          refine all_false ((by omega)) ?_
          refine iQ 3 (iB .lss 3 (.int .i64 c) (.int .i64 0) (some 82) ?_)
          refine all_false ((by omega)) ?_
          refine iQ 4 (iB .lss 3 (.int .i64 a) (.int .i64 0) (some 87) ?_)
          refine all_false ((by omega)) ?_
          refine iQ 17 (iE 141 [(0, Ia a), (1, Ia b), (4, Ba false), (8, Ia d), (9, Ia h), (10, Ia m), (11, Ia c), (13, Ba false), (59, Ba false), (104, Ba false)] [] ?_)
          refine iF (vc_skip (seq_n (vc_seqr rfl (iQ 1 (iB .mul 3 (.int .i64 86400) (.int .i64 d) (some 106) ?_)))))
          intro z106 hz106
          try replace hz106 := hz106.i64 (by omega)
          refine iQ 1 (iB .mul 3 (.int .i64 3600) (.int .i64 h) (some 108) ?_)
          intro z108 hz108
          try replace hz108 := hz108.i64 (by omega)
          refine iB .add 3 (.int .i64 z106) (.int .i64 z108) (some 109) ?_
          intro z109 hz109
          try replace hz109 := hz109.i64 (by omega)
          refine iQ 1 (iB .mul 3 (.int .i64 60) (.int .i64 m) (some 111) ?_)
          intro z111 hz111
          try replace hz111 := hz111.i64 (by omega)
          refine iB .add 3 (.int .i64 z109) (.int .i64 z111) (some 112) ?_
          intro z112 hz112
          try replace hz112 := hz112.i64 (by omega)
          refine iQ 1 (iB .add 3 (.int .i64 z112) (.int .i64 c) (some 114) ?_)
          intro z114 hz114
          try replace hz114 := hz114.i64 (by omega)
          have h114 : z114 = a := by omega
          refine iQ 1 (iB .eql 3 (.int .i64 z114) (.int .i64 a) (some 116) ?_)
          refine all_true (h114) ?_
          refine iQ 2 (iB .gtr 3 (.int .i64 h) (.int .i64 (-24)) (some 119) ?_)
          refine all_true ((by omega)) ?_
          refine iQ 3 (iB .lss 3 (.int .i64 h) (.int .i64 24) (some 123) ?_)
          refine all_true ((by omega)) ?_
          refine iQ 3 (iB .gtr 3 (.int .i64 m) (.int .i64 (-60)) (some 127) ?_)
          refine all_true ((by omega)) ?_
          refine iQ 3 (iB .lss 3 (.int .i64 m) (.int .i64 60) (some 131) ?_)
          refine all_true ((by omega)) ?_
          refine iQ 3 (iB .gtr 3 (.int .i64 c) (.int .i64 (-60)) (some 135) ?_)
          refine all_true ((by omega)) ?_
          refine iQ 3 (iB .lss 3 (.int .i64 c) (.int .i64 60) (some 139) ?_)
          intro c139 hc139
          refine iQ 2 (iE 141 [(0, Ia a), (1, Ia b), (4, Ba c139), (8, Ia d), (9, Ia h), (10, Ia m), (11, Ia c), (13, Ba false), (59, Ba false), (104, Ba false)] [] ?_)
          refine vc_ret (iR (Bv c139) ?_)
          rw [hc139.2 (by omega)]
      · skip
        refine iQ 3 (iB .add 3 (.int .i64 a) (.int .i64 b) (some 48) ?_)
        intro z48 hz48
        try replace hz48 := hz48.i64 (by omega)
        have h48 : s = z48 := by have e1 := k2 rfl; obtain ⟨m1, m2, m3⟩ := k1.1 rfl; unfold mayN at m1 m2; first | omega | (rw [hz48.i64 (by omega)]; exact e1)
        refine iB .neq 3 (.int .i64 s) (.int .i64 z48) (some 49) ?_
        refine all_false ((by rw [Ne, Decidable.not_not]; exact h48)) ?_
        refine iQ 4 (iU .not (.bool true) (some 54) ?_)
        refine all_false ((by simp)) ?_
        refine iQ 5 (iE 141 [(0, Ia a), (1, Ia b), (4, Ba false), (13, Ba false), (59, Ba false)] [] ?_)
        refine iF (vc_skip (seq_n (vc_seqr rfl (iQ 1 (iC 43 [Iv a] (some 62) (c_Parts ha0 ha1) ?_)))))
        rintro _ ⟨d, h, m, c, rfl, hP⟩
        obtain ⟨s1, s2, s3, s4⟩ := hP
        refine iQ 9 (iE 141 [(0, Ia a), (1, Ia b), (4, Ba false), (8, Ia d), (9, Ia h), (10, Ia m), (11, Ia c), (13, Ba false), (59, Ba false)] [] ?_)
        refine vc_seq (vc_seqr rfl (iQ 1 (iB .gtr 3 (.int .i64 a) (.int .i64 0) (some 68) ?_)))
        intro c68 hc68
        refine iQ 1 ?_
        cases c68
        · replace hc68 := bf hc68
          refine iQ 17 (iB .lss 3 (.int .i64 a) (.int .i64 0) (some 87) ?_)
          intro c87 hc87
          refine iQ 1 ?_
          cases c87
          · replace hc87 := bf hc87
            refine iQ 16 (iE 141 [(0, Ia a), (1, Ia b), (4, Ba false), (8, Ia d), (9, Ia h), (10, Ia m), (11, Ia c), (13, Ba false), (59, Ba false), (104, Ba false)] [] ?_)
            refine iF (vc_skip (seq_n (vc_seqr rfl (iQ 1 (iB .mul 3 (.int .i64 86400) (.int .i64 d) (some 106) ?_)))))
            intro z106 hz106
            try replace hz106 := hz106.i64 (by omega)
            refine iQ 1 (iB .mul 3 (.int .i64 3600) (.int .i64 h) (some 108) ?_)
            intro z108 hz108
            try replace hz108 := hz108.i64 (by omega)
            refine iB .add 3 (.int .i64 z106) (.int .i64 z108) (some 109) ?_
            intro z109 hz109
            try replace hz109 := hz109.i64 (by omega)
            refine iQ 1 (iB .mul 3 (.int .i64 60) (.int .i64 m) (some 111) ?_)
            intro z111 hz111
            try replace hz111 := hz111.i64 (by omega)
            refine iB .add 3 (.int .i64 z109) (.int .i64 z111) (some 112) ?_
            intro z112 hz112
            try replace hz112 := hz112.i64 (by omega)
            refine iQ 1 (iB .add 3 (.int .i64 z112) (.int .i64 c) (some 114) ?_)
            intro z114 hz114
            try replace hz114 := hz114.i64 (by omega)
            have h114 : z114 = a := by omega
            refine iQ 1 (iB .eql 3 (.int .i64 z114) (.int .i64 a) (some 116) ?_)
            refine all_true (h114) ?_
            refine iQ 2 (iB .gtr 3 (.int .i64 h) (.int .i64 (-24)) (some 119) ?_)
            refine all_true ((by omega)) ?_
            refine iQ 3 (iB .lss 3 (.int .i64 h) (.int .i64 24) (some 123) ?_)
            refine all_true ((by omega)) ?_
            refine iQ 3 (iB .gtr 3 (.int .i64 m) (.int .i64 (-60)) (some 127) ?_)
            refine all_true ((by omega)) ?_
            refine iQ 3 (iB .lss 3 (.int .i64 m) (.int .i64 60) (some 131) ?_)
            refine all_true ((by omega)) ?_
            refine iQ 3 (iB .gtr 3 (.int .i64 c) (.int .i64 (-60)) (some 135) ?_)
            refine all_true ((by omega)) ?_
            refine iQ 3 (iB .lss 3 (.int .i64 c) (.int .i64 60) (some 139) ?_)
            intro c139 hc139
            refine iQ 2 (iE 141 [(0, Ia a), (1, Ia b), (4, Ba c139), (8, Ia d), (9, Ia h), (10, Ia m), (11, Ia c), (13, Ba false), (59, Ba false), (104, Ba false)] [] ?_)
            refine vc_ret (iR (Bv c139) ?_)
            rw [hc139.2 (by omega)]
          · replace hc87 := bt hc87
            refine iQ 1 (iB .gtr 3 (.int .i64 d) (.int .i64 0) (some 90) ?_)
            have s3' := s3 (by omega)
            refine all_false ((by omega)) ?_
            refine iQ 2 (iB .gtr 3 (.int .i64 h) (.int .i64 0) (some 93) ?_)
            refine all_false ((by omega)) ?_
            refine iQ 3 (iB .gtr 3 (.int .i64 m) (.int .i64 0) (some 97) ?_)
            refine all_false ((by omega)) ?_
            refine iQ 3 (iB .gtr 3 (.int .i64 c) (.int .i64 0) (some 101) ?_)
            refine all_false ((by omega)) ?_
            refine iQ 3 (iE 141 [(0, Ia a), (1, Ia b), (4, Ba false), (8, Ia d), (9, Ia h), (10, Ia m), (11, Ia c), (13, Ba false), (59, Ba false), (104, Ba false)] [] ?_)
            refine iF (vc_skip (seq_n (vc_seqr rfl (iQ 1 (iB .mul 3 (.int .i64 86400) (.int .i64 d) (some 106) ?_)))))
            intro z106 hz106
            try replace hz106 := hz106.i64 (by omega)
            refine iQ 1 (iB .mul 3 (.int .i64 3600) (.int .i64 h) (some 108) ?_)
            intro z108 hz108
            try replace hz108 := hz108.i64 (by omega)
            refine iB .add 3 (.int .i64 z106) (.int .i64 z108) (some 109) ?_
            intro z109 hz109
            try replace hz109 := hz109.i64 (by omega)
            refine iQ 1 (iB .mul 3 (.int .i64 60) (.int .i64 m) (some 111) ?_)
            intro z111 hz111
            try replace hz111 := hz111.i64 (by omega)
            refine iB .add 3 (.int .i64 z109) (.int .i64 z111) (some 112) ?_
            intro z112 hz112
            try replace hz112 := hz112.i64 (by omega)
            refine iQ 1 (iB .add 3 (.int .i64 z112) (.int .i64 c) (some 114) ?_)
            intro z114 hz114
            try replace hz114 := hz114.i64 (by omega)
            have h114 : z114 = a := by omega
            refine iQ 1 (iB .eql 3 (.int .i64 z114) (.int .i64 a) (some 116) ?_)
            refine all_true (h114) ?_
            refine iQ 2 (iB .gtr 3 (.int .i64 h) (.int .i64 (-24)) (some 119) ?_)
            refine all_true ((by omega)) ?_
            refine iQ 3 (iB .lss 3 (.int .i64 h) (.int .i64 24) (some 123) ?_)
            refine all_true ((by omega)) ?_
            refine iQ 3 (iB .gtr 3 (.int .i64 m) (.int .i64 (-60)) (some 127) ?_)
            refine all_true ((by omega)) ?_
            refine iQ 3 (iB .lss 3 (.int .i64 m) (.int .i64 60) (some 131) ?_)
            refine all_true ((by omega)) ?_
            refine iQ 3 (iB .gtr 3 (.int .i64 c) (.int .i64 (-60)) (some 135) ?_)
            refine all_true ((by omega)) ?_
            refine iQ 3 (iB .lss 3 (.int .i64 c) (.int .i64 60) (some 139) ?_)
            intro c139 hc139
            refine iQ 2 (iE 141 [(0, Ia a), (1, Ia b), (4, Ba c139), (8, Ia d), (9, Ia h), (10, Ia m), (11, Ia c), (13, Ba false), (59, Ba false), (104, Ba false)] [] ?_)
            refine vc_ret (iR (Bv c139) ?_)
            rw [hc139.2 (by omega)]
        · replace hc68 := bt hc68
          refine iQ 1 (iB .lss 3 (.int .i64 d) (.int .i64 0) (some 71) ?_)
          have s2' := s2 (by omega)
          refine all_false ((by omega)) ?_
          refine iQ 2 (iB .lss 3 (.int .i64 h) (.int .i64 0) (some 74) ?_)
          refine all_false ((by omega)) ?_
          refine iQ 3 (iB .lss 3 (.int .i64 m) (.int .i64 0) (some 78) ?_)
          refine all_false ((by omega)) ?_
          refine iQ 3 (iB .lss 3 (.int .i64 c) (.int .i64 0) (some 82) ?_)
          refine all_false ((by omega)) ?_
          refine iQ 4 (iB .lss 3 (.int .i64 a) (.int .i64 0) (some 87) ?_)
          refine all_false ((by omega)) ?_
          refine iQ 17 (iE 141 [(0, Ia a), (1, Ia b), (4, Ba false), (8, Ia d), (9, Ia h), (10, Ia m), (11, Ia c), (13, Ba false), (59, Ba false), (104, Ba false)] [] ?_)
          refine iF (vc_skip (seq_n (vc_seqr rfl (iQ 1 (iB .mul 3 (.int .i64 86400) (.int .i64 d) (some 106) ?_)))))
          intro z106 hz106
          try replace hz106 := hz106.i64 (by omega)
          refine iQ 1 (iB .mul 3 (.int .i64 3600) (.int .i64 h) (some 108) ?_)
          intro z108 hz108
          try replace hz108 := hz108.i64 (by omega)
          refine iB .add 3 (.int .i64 z106) (.int .i64 z108) (some 109) ?_
          intro z109 hz109
          try replace hz109 := hz109.i64 (by omega)
          refine iQ 1 (iB .mul 3 (.int .i64 60) (.int .i64 m) (some 111) ?_)
          intro z111 hz111
          try replace hz111 := hz111.i64 (by omega)
          refine iB .add 3 (.int .i64 z109) (.int .i64 z111) (some 112) ?_
          intro z112 hz112
          try replace hz112 := hz112.i64 (by omega)
          refine iQ 1 (iB .add 3 (.int .i64 z112) (.int .i64 c) (some 114) ?_)
          intro z114 hz114
          try replace hz114 := hz114.i64 (by omega)
          have h114 : z114 = a := by omega
          refine iQ 1 (iB .eql 3 (.int .i64 z114) (.int .i64 a) (some 116) ?_)
          refine all_true (h114) ?_
          refine iQ 2 (iB .gtr 3 (.int .i64 h) (.int .i64 (-24)) (some 119) ?_)
          refine all_true ((by omega)) ?_
          refine iQ 3 (iB .lss 3 (.int .i64 h) (.int .i64 24) (some 123) ?_)
          refine all_true ((by omega)) ?_
          refine iQ 3 (iB .gtr 3 (.int .i64 m) (.int .i64 (-60)) (some 127) ?_)
          refine all_true ((by omega)) ?_
          refine iQ 3 (iB .lss 3 (.int .i64 m) (.int .i64 60) (some 131) ?_)
          refine all_true ((by omega)) ?_
          refine iQ 3 (iB .gtr 3 (.int .i64 c) (.int .i64 (-60)) (some 135) ?_)
          refine all_true ((by omega)) ?_
          refine iQ 3 (iB .lss 3 (.int .i64 c) (.int .i64 60) (some 139) ?_)
          intro c139 hc139
          refine iQ 2 (iE 141 [(0, Ia a), (1, Ia b), (4, Ba c139), (8, Ia d), (9, Ia h), (10, Ia m), (11, Ia c), (13, Ba false), (59, Ba false), (104, Ba false)] [] ?_)
          refine vc_ret (iR (Bv c139) ?_)
          rw [hc139.2 (by omega)]
    · replace hp2 := bt hp2
      have m1 := hp1; have m2 := hp2
      unfold mayN at m1 m2
      refine iQ 2 (iB .add 3 (.int .i64 a) (.int .i64 b) (some 29) ?_)
      intro z29 hz29
      try replace hz29 := hz29.i64 (by omega)
      refine iC 39 [Iv z29] (some 30) (c_lawMay) ?_
      rintro _ ⟨p3, rfl, hp3⟩
      have hIS : p3 = true ↔ mayN a ∧ mayN b ∧ mayN (a + b) := by rw [hp3, hz29]; exact ⟨fun k => ⟨hp1, hp2, k⟩, fun k => k.2.2⟩
      have hok : ok = p3 := by rw [Bool.eq_iff_iff, k1, hIS]
      refine iQ 2 (iE 141 [(0, Ia a), (1, Ia b), (4, Ba false), (5, Ia s), (6, Ba ok), (7, Ba p3), (13, Ba false)] [] ?_)
      refine vc_seq (vc_seqr rfl (iQ 1 (iC 42 [Iv a] (some 33) (c_spanMay) ?_)))
      rintro _ ⟨p, rfl, hp⟩
      refine iQ 1 (iC 39 [Iv a] (some 35) (c_lawMay) ?_)
      rintro _ ⟨q, rfl, hq⟩
      refine iB .neq 4 (.bool p) (.bool q) (some 36) ?_
      refine all_false ((by rw [Ne, Decidable.not_not, Bool.eq_iff_iff, hp, hq])) ?_
      refine iQ 3 (iB .neq 4 (.bool ok) (.bool p3) (some 40) ?_)
      refine all_false ((by rw [Ne, Decidable.not_not]; exact hok)) ?_
      refine iQ 4 ?_
      cases ok
      · skip
        refine iQ 9 (iU .not (.bool false) (some 54) ?_)
        refine all_true (rfl) ?_
        refine iQ 2 (iB .neq 3 (.int .i64 s) (.int .i64 0) (some 57) ?_)
        refine all_false ((by rw [Ne, Decidable.not_not]; exact k3 rfl)) ?_
        refine iQ 2 (iE 141 [(0, Ia a), (1, Ia b), (4, Ba false), (13, Ba false), (59, Ba false)] [] ?_)
        refine iF (vc_skip (seq_n (vc_seqr rfl (iQ 1 (iC 43 [Iv a] (some 62) (c_Parts ha0 ha1) ?_)))))
        rintro _ ⟨d, h, m, c, rfl, hP⟩
        obtain ⟨s1, s2, s3, s4⟩ := hP
        refine iQ 9 (iE 141 [(0, Ia a), (1, Ia b), (4, Ba false), (8, Ia d), (9, Ia h), (10, Ia m), (11, Ia c), (13, Ba false), (59, Ba false)] [] ?_)
        refine vc_seq (vc_seqr rfl (iQ 1 (iB .gtr 3 (.int .i64 a) (.int .i64 0) (some 68) ?_)))
        intro c68 hc68
        refine iQ 1 ?_
        cases c68
        · replace hc68 := bf hc68
          refine iQ 17 (iB .lss 3 (.int .i64 a) (.int .i64 0) (some 87) ?_)
          intro c87 hc87
          refine iQ 1 ?_
          cases c87
          · replace hc87 := bf hc87
            refine iQ 16 (iE 141 [(0, Ia a), (1, Ia b), (4, Ba false), (8, Ia d), (9, Ia h), (10, Ia m), (11, Ia c), (13, Ba false), (59, Ba false), (104, Ba false)] [] ?_)
            refine iF (vc_skip (seq_n (vc_seqr rfl (iQ 1 (iB .mul 3 (.int .i64 86400) (.int .i64 d) (some 106) ?_)))))
            intro z106 hz106
            try replace hz106 := hz106.i64 (by omega)
            refine iQ 1 (iB .mul 3 (.int .i64 3600) (.int .i64 h) (some 108) ?_)
            intro z108 hz108
            try replace hz108 := hz108.i64 (by omega)
            refine iB .add 3 (.int .i64 z106) (.int .i64 z108) (some 109) ?_
            intro z109 hz109
            try replace hz109 := hz109.i64 (by omega)
            refine iQ 1 (iB .mul 3 (.int .i64 60) (.int .i64 m) (some 111) ?_)
            intro z111 hz111
            try replace hz111 := hz111.i64 (by omega)
            refine iB .add 3 (.int .i64 z109) (.int .i64 z111) (some 112) ?_
            intro z112 hz112
            try replace hz112 := hz112.i64 (by omega)
            refine iQ 1 (iB .add 3 (.int .i64 z112) (.int .i64 c) (some 114) ?_)
            intro z114 hz114
            try replace hz114 := hz114.i64 (by omega)
            have h114 : z114 = a := by omega
            refine iQ 1 (iB .eql 3 (.int .i64 z114) (.int .i64 a) (some 116) ?_)
            refine all_true (h114) ?_
            refine iQ 2 (iB .gtr 3 (.int .i64 h) (.int .i64 (-24)) (some 119) ?_)
            refine all_true ((by omega)) ?_
            refine iQ 3 (iB .lss 3 (.int .i64 h) (.int .i64 24) (some 123) ?_)
            refine all_true ((by omega)) ?_
            refine iQ 3 (iB .gtr 3 (.int .i64 m) (.int .i64 (-60)) (some 127) ?_)
            refine all_true ((by omega)) ?_
            refine iQ 3 (iB .lss 3 (.int .i64 m) (.int .i64 60) (some 131) ?_)
            refine all_true ((by omega)) ?_
            refine iQ 3 (iB .gtr 3 (.int .i64 c) (.int .i64 (-60)) (some 135) ?_)
            refine all_true ((by omega)) ?_
            refine iQ 3 (iB .lss 3 (.int .i64 c) (.int .i64 60) (some 139) ?_)
            intro c139 hc139
            refine iQ 2 (iE 141 [(0, Ia a), (1, Ia b), (4, Ba c139), (8, Ia d), (9, Ia h), (10, Ia m), (11, Ia c), (13, Ba false), (59, Ba false), (104, Ba false)] [] ?_)
            refine vc_ret (iR (Bv c139) ?_)
            rw [hc139.2 (by omega)]
          · replace hc87 := bt hc87
            refine iQ 1 (iB .gtr 3 (.int .i64 d) (.int .i64 0) (some 90) ?_)
            have s3' := s3 (by omega)
            refine all_false ((by omega)) ?_
            refine iQ 2 (iB .gtr 3 (.int .i64 h) (.int .i64 0) (some 93) ?_)
            refine all_false ((by omega)) ?_
            refine iQ 3 (iB .gtr 3 (.int .i64 m) (.int .i64 0) (some 97) ?_)
            refine all_false ((by omega)) ?_
            refine iQ 3 (iB .gtr 3 (.int .i64 c) (.int .i64 0) (some 101) ?_)
            refine all_false ((by omega)) ?_
            refine iQ 3 (iE 141 [(0, Ia a), (1, Ia b), (4, Ba false), (8, Ia d), (9, Ia h), (10, Ia m), (11, Ia c), (13, Ba false), (59, Ba false), (104, Ba false)] [] ?_)
            refine iF (vc_skip (seq_n (vc_seqr rfl (iQ 1 (iB .mul 3 (.int .i64 86400) (.int .i64 d) (some 106) ?_)))))
            intro z106 hz106
            try replace hz106 := hz106.i64 (by omega)
            refine iQ 1 (iB .mul 3 (.int .i64 3600) (.int .i64 h) (some 108) ?_)
            intro z108 hz108
            try replace hz108 := hz108.i64 (by omega)
            refine iB .add 3 (.int .i64 z106) (.int .i64 z108) (some 109) ?_
            intro z109 hz109
            try replace hz109 := hz109.i64 (by omega)
            refine iQ 1 (iB .mul 3 (.int .i64 60) (.int .i64 m) (some 111) ?_)
            intro z111 hz111
            try replace hz111 := hz111.i64 (by omega)
            refine iB .add 3 (.int .i64 z109) (.int .i64 z111) (some 112) ?_
            intro z112 hz112
            try replace hz112 := hz112.i64 (by omega)
            refine iQ 1 (iB .add 3 (.int .i64 z112) (.int .i64 c) (some 114) ?_)
            intro z114 hz114
            try replace hz114 := hz114.i64 (by omega)
            have h114 : z114 = a := by omega
            refine iQ 1 (iB .eql 3 (.int .i64 z114) (.int .i64 a) (some 116) ?_)
            refine all_true (h114) ?_
            refine iQ 2 (iB .gtr 3 (.int .i64 h) (.int .i64 (-24)) (some 119) ?_)
            refine all_true ((by omega)) ?_
            refine iQ 3 (iB .lss 3 (.int .i64 h) (.int .i64 24) (some 123) ?_)
            refine all_true ((by omega)) ?_
            refine iQ 3 (iB .gtr 3 (.int .i64 m) (.int .i64 (-60)) (some 127) ?_)
            refine all_true ((by omega)) ?_
            refine iQ 3 (iB .lss 3 (.int .i64 m) (.int .i64 60) (some 131) ?_)
            refine all_true ((by omega)) ?_
            refine iQ 3 (iB .gtr 3 (.int .i64 c) (.int .i64 (-60)) (some 135) ?_)
            refine all_true ((by omega)) ?_
            refine iQ 3 (iB .lss 3 (.int .i64 c) (.int .i64 60) (some 139) ?_)
            intro c139 hc139
            refine iQ 2 (iE 141 [(0, Ia a), (1, Ia b), (4, Ba c139), (8, Ia d), (9, Ia h), (10, Ia m), (11, Ia c), (13, Ba false), (59, Ba false), (104, Ba false)] [] ?_)
            refine vc_ret (iR (Bv c139) ?_)
            rw [hc139.2 (by omega)]
        · replace hc68 := bt hc68
          refine iQ 1 (iB .lss 3 (.int .i64 d) (.int .i64 0) (some 71) ?_)
          have s2' := s2 (by omega)
          refine all_false ((by omega)) ?_
          refine iQ 2 (iB .lss 3 (.int .i64 h) (.int .i64 0) (some 74) ?_)
          refine all_false ((by omega)) ?_
          refine iQ 3 (iB .lss 3 (.int .i64 m) (.int .i64 0) (some 78) ?_)
          refine all_false ((by omega)) ?_
          refine iQ 3 (iB .lss 3 (.int .i64 c) (.int .i64 0) (some 82) ?_)
          refine all_false ((by omega)) ?_
          refine iQ 4 (iB .lss 3 (.int .i64 a) (.int .i64 0) (some 87) ?_)
          refine all_false ((by omega)) ?_
          refine iQ 17 (iE 141 [(0, Ia a), (1, Ia b), (4, Ba false), (8, Ia d), (9, Ia h), (10, Ia m), (11, Ia c), (13, Ba false), (59, Ba false), (104, Ba false)] [] ?_)
          refine iF (vc_skip (seq_n (vc_seqr rfl (iQ 1 (iB .mul 3 (.int .i64 86400) (.int .i64 d) (some 106) ?_)))))
          intro z106 hz106
          try replace hz106 := hz106.i64 (by omega)
          refine iQ 1 (iB .mul 3 (.int .i64 3600) (.int .i64 h) (some 108) ?_)
          intro z108 hz108
          try replace hz108 := hz108.i64 (by omega)
          refine iB .add 3 (.int .i64 z106) (.int .i64 z108) (some 109) ?_
          intro z109 hz109
          try replace hz109 := hz109.i64 (by omega)
          refine iQ 1 (iB .mul 3 (.int .i64 60) (.int .i64 m) (some 111) ?_)
          intro z111 hz111
          try replace hz111 := hz111.i64 (by omega)
          refine iB .add 3 (.int .i64 z109) (.int .i64 z111) (some 112) ?_
          intro z112 hz112
          try replace hz112 := hz112.i64 (by omega)
          refine iQ 1 (iB .add 3 (.int .i64 z112) (.int .i64 c) (some 114) ?_)
          intro z114 hz114
          try replace hz114 := hz114.i64 (by omega)
          have h114 : z114 = a := by omega
          refine iQ 1 (iB .eql 3 (.int .i64 z114) (.int .i64 a) (some 116) ?_)
          refine all_true (h114) ?_
          refine iQ 2 (iB .gtr 3 (.int .i64 h) (.int .i64 (-24)) (some 119) ?_)
          refine all_true ((by omega)) ?_
          refine iQ 3 (iB .lss 3 (.int .i64 h) (.int .i64 24) (some 123) ?_)
          refine all_true ((by omega)) ?_
          refine iQ 3 (iB .gtr 3 (.int .i64 m) (.int .i64 (-60)) (some 127) ?_)
          refine all_true ((by omega)) ?_
          refine iQ 3 (iB .lss 3 (.int .i64 m) (.int .i64 60) (some 131) ?_)
          refine all_true ((by omega)) ?_
          refine iQ 3 (iB .gtr 3 (.int .i64 c) (.int .i64 (-60)) (some 135) ?_)
          refine all_true ((by omega)) ?_
          refine iQ 3 (iB .lss 3 (.int .i64 c) (.int .i64 60) (some 139) ?_)
          intro c139 hc139
          refine iQ 2 (iE 141 [(0, Ia a), (1, Ia b), (4, Ba c139), (8, Ia d), (9, Ia h), (10, Ia m), (11, Ia c), (13, Ba false), (59, Ba false), (104, Ba false)] [] ?_)
          refine vc_ret (iR (Bv c139) ?_)
          rw [hc139.2 (by omega)]
      · skip
        refine iQ 3 (iB .add 3 (.int .i64 a) (.int .i64 b) (some 48) ?_)
        intro z48 hz48
        try replace hz48 := hz48.i64 (by omega)
        have h48 : s = z48 := by have e1 := k2 rfl; obtain ⟨m1, m2, m3⟩ := k1.1 rfl; unfold mayN at m1 m2; first | omega | (rw [hz48.i64 (by omega)]; exact e1)
        refine iB .neq 3 (.int .i64 s) (.int .i64 z48) (some 49) ?_
        refine all_false ((by rw [Ne, Decidable.not_not]; exact h48)) ?_
        refine iQ 4 (iU .not (.bool true) (some 54) ?_)
        refine all_false ((by simp)) ?_
        refine iQ 5 (iE 141 [(0, Ia a), (1, Ia b), (4, Ba false), (13, Ba false), (59, Ba false)] [] ?_)
        refine iF (vc_skip (seq_n (vc_seqr rfl (iQ 1 (iC 43 [Iv a] (some 62) (c_Parts ha0 ha1) ?_)))))
        rintro _ ⟨d, h, m, c, rfl, hP⟩
        obtain ⟨s1, s2, s3, s4⟩ := hP
        refine iQ 9 (iE 141 [(0, Ia a), (1, Ia b), (4, Ba false), (8, Ia d), (9, Ia h), (10, Ia m), (11, Ia c), (13, Ba false), (59, Ba false)] [] ?_)
        refine vc_seq (vc_seqr rfl (iQ 1 (iB .gtr 3 (.int .i64 a) (.int .i64 0) (some 68) ?_)))
        intro c68 hc68
        refine iQ 1 ?_
        cases c68
        · replace hc68 := bf hc68
          refine iQ 17 (iB .lss 3 (.int .i64 a) (.int .i64 0) (some 87) ?_)
          intro c87 hc87
          refine iQ 1 ?_
          cases c87
          · replace hc87 := bf hc87
            refine iQ 16 (iE 141 [(0, Ia a), (1, Ia b), (4, Ba false), (8, Ia d), (9, Ia h), (10, Ia m), (11, Ia c), (13, Ba false), (59, Ba false), (104, Ba false)] [] ?_)
            refine iF (vc_skip (seq_n (vc_seqr rfl (iQ 1 (iB .mul 3 (.int .i64 86400) (.int .i64 d) (some 106) ?_)))))
            intro z106 hz106
            try replace hz106 := hz106.i64 (by omega)
            refine iQ 1 (iB .mul 3 (.int .i64 3600) (.int .i64 h) (some 108) ?_)
            intro z108 hz108
            try replace hz108 := hz108.i64 (by omega)
            refine iB .add 3 (.int .i64 z106) (.int .i64 z108) (some 109) ?_
            intro z109 hz109
            try replace hz109 := hz109.i64 (by omega)
            refine iQ 1 (iB .mul 3 (.int .i64 60) (.int .i64 m) (some 111) ?_)
            intro z111 hz111
            try replace hz111 := hz111.i64 (by omega)
            refine iB .add 3 (.int .i64 z109) (.int .i64 z111) (some 112) ?_
            intro z112 hz112
            try replace hz112 := hz112.i64 (by omega)
            refine iQ 1 (iB .add 3 (.int .i64 z112) (.int .i64 c) (some 114) ?_)
            intro z114 hz114
            try replace hz114 := hz114.i64 (by omega)
            have h114 : z114 = a := by omega
            refine iQ 1 (iB .eql 3 (.int .i64 z114) (.int .i64 a) (some 116) ?_)
            refine all_true (h114) ?_
            refine iQ 2 (iB .gtr 3 (.int .i64 h) (.int .i64 (-24)) (some 119) ?_)
            refine all_true ((by omega)) ?_
            refine iQ 3 (iB .lss 3 (.int .i64 h) (.int .i64 24) (some 123) ?_)
            refine all_true ((by omega)) ?_
            refine iQ 3 (iB .gtr 3 (.int .i64 m) (.int .i64 (-60)) (some 127) ?_)
            refine all_true ((by omega)) ?_
            refine iQ 3 (iB .lss 3 (.int .i64 m) (.int .i64 60) (some 131) ?_)
            refine all_true ((by omega)) ?_
            refine iQ 3 (iB .gtr 3 (.int .i64 c) (.int .i64 (-60)) (some 135) ?_)
            refine all_true ((by omega)) ?_
            refine iQ 3 (iB .lss 3 (.int .i64 c) (.int .i64 60) (some 139) ?_)
            intro c139 hc139
            refine iQ 2 (iE 141 [(0, Ia a), (1, Ia b), (4, Ba c139), (8, Ia d), (9, Ia h), (10, Ia m), (11, Ia c), (13, Ba false), (59, Ba false), (104, Ba false)] [] ?_)
            refine vc_ret (iR (Bv c139) ?_)
            rw [hc139.2 (by omega)]
          · replace hc87 := bt hc87
            refine iQ 1 (iB .gtr 3 (.int .i64 d) (.int .i64 0) (some 90) ?_)
            have s3' := s3 (by omega)
            refine all_false ((by omega)) ?_
            refine iQ 2 (iB .gtr 3 (.int .i64 h) (.int .i64 0) (some 93) ?_)
            refine all_false ((by omega)) ?_
            refine iQ 3 (iB .gtr 3 (.int .i64 m) (.int .i64 0) (some 97) ?_)
            refine all_false ((by omega)) ?_
            refine iQ 3 (iB .gtr 3 (.int .i64 c) (.int .i64 0) (some 101) ?_)
            refine all_false ((by omega)) ?_
            refine iQ 3 (iE 141 [(0, Ia a), (1, Ia b), (4, Ba false), (8, Ia d), (9, Ia h), (10, Ia m), (11, Ia c), (13, Ba false), (59, Ba false), (104, Ba false)] [] ?_)
            refine iF (vc_skip (seq_n (vc_seqr rfl (iQ 1 (iB .mul 3 (.int .i64 86400) (.int .i64 d) (some 106) ?_)))))
            intro z106 hz106
            try replace hz106 := hz106.i64 (by omega)
            refine iQ 1 (iB .mul 3 (.int .i64 3600) (.int .i64 h) (some 108) ?_)
            intro z108 hz108
            try replace hz108 := hz108.i64 (by omega)
            refine iB .add 3 (.int .i64 z106) (.int .i64 z108) (some 109) ?_
            intro z109 hz109
            try replace hz109 := hz109.i64 (by omega)
            refine iQ 1 (iB .mul 3 (.int .i64 60) (.int .i64 m) (some 111) ?_)
            intro z111 hz111
            try replace hz111 := hz111.i64 (by omega)
            refine iB .add 3 (.int .i64 z109) (.int .i64 z111) (some 112) ?_
            intro z112 hz112
            try replace hz112 := hz112.i64 (by omega)
            refine iQ 1 (iB .add 3 (.int .i64 z112) (.int .i64 c) (some 114) ?_)
            intro z114 hz114
            try replace hz114 := hz114.i64 (by omega)
            have h114 : z114 = a := by omega
            refine iQ 1 (iB .eql 3 (.int .i64 z114) (.int .i64 a) (some 116) ?_)
            refine all_true (h114) ?_
            refine iQ 2 (iB .gtr 3 (.int .i64 h) (.int .i64 (-24)) (some 119) ?_)
            refine all_true ((by omega)) ?_
            refine iQ 3 (iB .lss 3 (.int .i64 h) (.int .i64 24) (some 123) ?_)
            refine all_true ((by omega)) ?_
            refine iQ 3 (iB .gtr 3 (.int .i64 m) (.int .i64 (-60)) (some 127) ?_)
            refine all_true ((by omega)) ?_
            refine iQ 3 (iB .lss 3 (.int .i64 m) (.int .i64 60) (some 131) ?_)
            refine all_true ((by omega)) ?_
            refine iQ 3 (iB .gtr 3 (.int .i64 c) (.int .i64 (-60)) (some 135) ?_)
            refine all_true ((by omega)) ?_
            refine iQ 3 (iB .lss 3 (.int .i64 c) (.int .i64 60) (some 139) ?_)
            intro c139 hc139
            refine iQ 2 (iE 141 [(0, Ia a), (1, Ia b), (4, Ba c139), (8, Ia d), (9, Ia h), (10, Ia m), (11, Ia c), (13, Ba false), (59, Ba false), (104, Ba false)] [] ?_)
            refine vc_ret (iR (Bv c139) ?_)
            rw [hc139.2 (by omega)]
        · replace hc68 := bt hc68
          refine iQ 1 (iB .lss 3 (.int .i64 d) (.int .i64 0) (some 71) ?_)
          have s2' := s2 (by omega)
          refine all_false ((by omega)) ?_
          refine iQ 2 (iB .lss 3 (.int .i64 h) (.int .i64 0) (some 74) ?_)
          refine all_false ((by omega)) ?_
          refine iQ 3 (iB .lss 3 (.int .i64 m) (.int .i64 0) (some 78) ?_)
          refine all_false ((by omega)) ?_
          refine iQ 3 (iB .lss 3 (.int .i64 c) (.int .i64 0) (some 82) ?_)
          refine all_false ((by omega)) ?_
          refine iQ 4 (iB .lss 3 (.int .i64 a) (.int .i64 0) (some 87) ?_)
          refine all_false ((by omega)) ?_
          refine iQ 17 (iE 141 [(0, Ia a), (1, Ia b), (4, Ba false), (8, Ia d), (9, Ia h), (10, Ia m), (11, Ia c), (13, Ba false), (59, Ba false), (104, Ba false)] [] ?_)
          refine iF (vc_skip (seq_n (vc_seqr rfl (iQ 1 (iB .mul 3 (.int .i64 86400) (.int .i64 d) (some 106) ?_)))))
          intro z106 hz106
          try replace hz106 := hz106.i64 (by omega)
          refine iQ 1 (iB .mul 3 (.int .i64 3600) (.int .i64 h) (some 108) ?_)
          intro z108 hz108
          try replace hz108 := hz108.i64 (by omega)
          refine iB .add 3 (.int .i64 z106) (.int .i64 z108) (some 109) ?_
          intro z109 hz109
          try replace hz109 := hz109.i64 (by omega)
          refine iQ 1 (iB .mul 3 (.int .i64 60) (.int .i64 m) (some 111) ?_)
          intro z111 hz111
          try replace hz111 := hz111.i64 (by omega)
          refine iB .add 3 (.int .i64 z109) (.int .i64 z111) (some 112) ?_
          intro z112 hz112
          try replace hz112 := hz112.i64 (by omega)
          refine iQ 1 (iB .add 3 (.int .i64 z112) (.int .i64 c) (some 114) ?_)
          intro z114 hz114
          try replace hz114 := hz114.i64 (by omega)
          have h114 : z114 = a := by omega
          refine iQ 1 (iB .eql 3 (.int .i64 z114) (.int .i64 a) (some 116) ?_)
          refine all_true (h114) ?_
          refine iQ 2 (iB .gtr 3 (.int .i64 h) (.int .i64 (-24)) (some 119) ?_)
          refine all_true ((by omega)) ?_
          refine iQ 3 (iB .lss 3 (.int .i64 h) (.int .i64 24) (some 123) ?_)
          refine all_true ((by omega)) ?_
          refine iQ 3 (iB .gtr 3 (.int .i64 m) (.int .i64 (-60)) (some 127) ?_)
          refine all_true ((by omega)) ?_
          refine iQ 3 (iB .lss 3 (.int .i64 m) (.int .i64 60) (some 131) ?_)
          refine all_true ((by omega)) ?_
          refine iQ 3 (iB .gtr 3 (.int .i64 c) (.int .i64 (-60)) (some 135) ?_)
          refine all_true ((by omega)) ?_
          refine iQ 3 (iB .lss 3 (.int .i64 c) (.int .i64 60) (some 139) ?_)
          intro c139 hc139
          refine iQ 2 (iE 141 [(0, Ia a), (1, Ia b), (4, Ba c139), (8, Ia d), (9, Ia h), (10, Ia m), (11, Ia c), (13, Ba false), (59, Ba false), (104, Ba false)] [] ?_)
          refine vc_ret (iR (Bv c139) ?_)
          rw [hc139.2 (by omega)]

end Go.Proofs.Ytfjcblmmfkgkoaa
