/-
  moment, span: instants, durations.
-/
import Derived.Test.YtfjcblmmfkgkoaaCivA
import Derived.Test.YtfjcblmmfkgkoaaLawJ
import Derived.Test.YtfjcblmmfkgkoaaDecZ
namespace Go.Proofs.Ytfjcblmmfkgkoaa
open Go.RowKit
set_option linter.unusedVariables false
set_option linter.unusedSimpArgs false
set_option maxRecDepth 100000


theorem d4_ex {P : Program} {f : FuncId} {ds : List DV} {t : D4} (h : HasC P f ds (fun y => y = dD4 t)) : HasC P f ds (fun r => ∃ y m d ok, r = .tup [.agg [.v (.int .i64 y), .v (.int .i64 m), .v (.int .i64 d)], .v (.bool ok)] ∧ t = (y, m, d, ok)) :=
  h.mono fun y hy => ⟨_, _, _, _, hy, rfl⟩
theorem d4_as {P : Program} {f : FuncId} {ds : List DV} {t : D4} {y m d : Int} {ok : Bool} (h : HasC P f ds (fun y => y = dD4 t)) (ht : t = (y, m, d, ok)) : HasC P f ds (fun r => r = .tup [.agg [.v (.int .i64 y), .v (.int .i64 m), .v (.int .i64 d)], .v (.bool ok)]) := by
  subst ht
  exact h
theorem D4.inj {a a' b b' c c' : Int} {d d' : Bool} (h : ((a, b, c, d) : D4) = (a', b', c', d')) : a = a' ∧ b = b' ∧ c = c' ∧ d = d' := by
  simp only [Prod.mk.injEq] at h
  exact h
theorem of_none {n y m d : Int} (h : ofT n = (y, m, d, false)) : y = 0 ∧ m = 0 ∧ d = 0 := by
  unfold ofT at h
  split at h
  · obtain ⟨h1, h2, h3, _⟩ := D4.inj h; exact ⟨h1.symm, h2.symm, h3.symm⟩
  · split at h
    · split at h
      · have := (D4.inj h).2.2.2; cases this
      · obtain ⟨h1, h2, h3, _⟩ := D4.inj h; exact ⟨h1.symm, h2.symm, h3.symm⟩
    · split at h
      · have := (D4.inj h).2.2.2; cases this
      · obtain ⟨h1, h2, h3, _⟩ := D4.inj h; exact ⟨h1.symm, h2.symm, h3.symm⟩

theorem c_Time0 {s : Int} (h0 : 0 ≤ s) (h1 : s < 86400) : HasC Try.prog 107 [.agg [.v (.int .i64 s), .v (.bool false), .v (.int .i64 0)]] (fun r => r = .v (.bool true)) := by
  refine HasC.of [] (fn := Try.f107) tyOk mixed (fun args w => Try.call107 args w) Try.func107 rfl (by kernel_rfl) (Nat.le_of_ble_eq_true rfl) (⟨_, rfl⟩) ?_
  refine vc_seqr rfl (iQ 2 (iE 30 [(1, .p 1 0), (2, Ba false)] [(1, [Iv s, Bv false, Iv 0])] ?_))
  refine vc_seqr rfl (iQ 2 (iB .geq 3 (.int .i64 s) (.int .i64 0) (some 5) ?_))
  refine all_true (h0) ?_
  refine iQ 3 (iB .lss 3 (.int .i64 s) (.int .i64 86400) (some 9) ?_)
  refine all_true (h1) ?_
  refine iQ 4 (iB .geq 3 (.int .i64 0) (.int .i64 (-64800)) (some 14) ?_)
  refine all_true ((by decide)) ?_
  refine iQ 4 (iB .leq 3 (.int .i64 0) (.int .i64 64800) (some 19) ?_)
  refine all_true ((by decide)) ?_
  refine iQ 7 (iB .eql 3 (.int .i64 0) (.int .i64 0) (some 27) ?_)
  refine all_true (rfl) ?_
  refine iQ 3 (iE 30 [(2, Ba true)] [] ?_)
  refine vc_ret (iR (Bv true) ?_)
  rfl

theorem c_Instant {y m d s : Int} (hmay : mayD y m d) (h0 : 0 ≤ s) (h1 : s < 86400) : HasC Try.prog 86 [.agg [.v (.int .i64 y), .v (.int .i64 m), .v (.int .i64 d), .v (.int .i64 s), .v (.bool false), .v (.int .i64 0)]] (fun r => r = .tup [.v (.int .i64 (86400 * numI y m d + s)), .v (.bool true)]) := by
  refine HasC.of [] (fn := Try.f86) tyOk mixed (fun args w => Try.call86 args w) Try.func86 rfl (by kernel_rfl) (Nat.le_of_ble_eq_true rfl) (⟨_, rfl⟩) ?_
  have hn := numI_rng hmay
  refine vc_seqr rfl (iQ 3 (iE 30 [(1, .p 1 0), (2, Ia 0), (3, Ba false)] [(1, [Iv y, Iv m, Iv d, Iv s, Bv false, Iv 0])] ?_))
  refine vc_seqr rfl (iQ 2 (iC 47 [.agg [Iv y, Iv m, Iv d]] (some 9) (c_Number hmay) ?_))
  rintro _ rfl
  refine iQ 5 (iE 30 [(1, .p 1 0), (2, Ia 0), (3, Ba false), (4, Ia (numI y m d)), (5, Ba true)] [(1, [Iv y, Iv m, Iv d, Iv s, Bv false, Iv 0])] ?_)
  refine vc_seq (vc_seqr rfl (iQ 1 (iU .not (.bool true) (some 13) ?_)))
  refine all_false ((by simp)) ?_
  refine iQ 3 (iC 107 [.agg [Iv s, Bv false, Iv 0]] (some 17) (c_Time0 h0 h1) ?_)
  rintro _ rfl
  refine iU .not (.bool true) (some 18) ?_
  refine all_false ((by simp)) ?_
  refine iQ 1 (iE 30 [(1, .p 1 0), (2, Ia 0), (3, Ba false), (4, Ia (numI y m d)), (19, Ba false)] [(1, [Iv y, Iv m, Iv d, Iv s, Bv false, Iv 0])] ?_)
  refine iF (vc_skip (seq_n (vc_seqr rfl (iQ 1 (iB .mul 3 (.int .i64 86400) (.int .i64 (numI y m d)) (some 21) ?_)))))
  intro z21 hz21
  try replace hz21 := hz21.i64 (by omega)
  refine iQ 3 (iB .add 3 (.int .i64 z21) (.int .i64 s) (some 25) ?_)
  intro z25 hz25
  try replace hz25 := hz25.i64 (by omega)
  refine iQ 3 (iB .sub 3 (.int .i64 z25) (.int .i64 0) (some 29) ?_)
  intro z29 hz29
  try replace hz29 := hz29.i64 (by omega)
  refine iQ 2 (iE 30 [(1, .p 1 0), (2, Ia z29), (3, Ba true), (19, Ba false)] [(1, [Iv y, Iv m, Iv d, Iv s, Bv false, Iv 0])] ?_)
  refine vc_ret (iS (Iv z29) (Bv true) [] ?_)
  rw [show 86400 * numI y m d + s = z29 by omega]

/-- The moment of an instant: its day, its second. -/
def momT (i : Int) : D4 × Int := if i < -72057594037927936 ∨ 72057594037927936 < i then ((0, 0, 0, false), 0) else if (ofT (i / 86400)).2.2.2 = true then (ofT (i / 86400), i % 86400) else ((0, 0, 0, false), 0)
def dMom (t : D4 × Int) : DV := .tup [.agg [.v (.int .i64 t.1.1), .v (.int .i64 t.1.2.1), .v (.int .i64 t.1.2.2.1), .v (.int .i64 t.2), .v (.bool false), .v (.int .i64 0)], .v (.bool t.1.2.2.2)]

set_option maxHeartbeats 1600000 in
theorem c_momOf {i s : Int} (h0 : -9223372036854775808 ≤ i) (h1 : i ≤ 9223372036854775807) (hs0 : 0 ≤ s) (hs1 : s < 86400) : HasC Try.prog 87 [.v (.int .i64 i), .agg [.v (.int .i64 s), .v (.bool false), .v (.int .i64 0)]] (fun r => r = dMom (momT i)) := by
  refine HasC.of [] (fn := Try.f87) tyOk mixed (fun args w => Try.call87 args w) Try.func87 rfl (by kernel_rfl) (Nat.le_of_ble_eq_true rfl) (⟨_, rfl⟩) ?_
  refine vc_seqr rfl (iQ 3 (iE 50 [(0, Ia i), (3, .p 3 0), (4, .p 4 0), (5, Ba false)] [(3, [Iv s, Bv false, Iv 0]), (4, [Iv 0, Iv 0, Iv 0, Iv 0, Bv false, Iv 0])] ?_))
  refine vc_seq (vc_seqr rfl (iQ 1 (iB .lss 3 (.int .i64 i) (.int .i64 (-72057594037927936)) (some 12) ?_)))
  intro c12 hc12
  refine iQ 1 ?_
  cases c12
  · replace hc12 := bf hc12
    refine iQ 1 (iB .gtr 3 (.int .i64 i) (.int .i64 72057594037927936) (some 15) ?_)
    intro c15 hc15
    refine iQ 2 ?_
    cases c15
    · replace hc15 := bf hc15
      refine iQ 1 (iC 107 [.agg [Iv s, Bv false, Iv 0]] (some 19) (c_Time0 hs0 hs1) ?_)
      rintro _ rfl
      refine iU .not (.bool true) (some 20) ?_
      refine all_false ((by simp)) ?_
      refine iQ 1 (iE 50 [(0, Ia i), (3, .p 3 0), (4, .p 4 0), (5, Ba false), (21, Ba false)] [(3, [Iv s, Bv false, Iv 0]), (4, [Iv 0, Iv 0, Iv 0, Iv 0, Bv false, Iv 0])] ?_)
      refine iF (vc_skip (seq_n (vc_seqr rfl (iQ 3 (iB .add 3 (.int .i64 i) (.int .i64 0) (some 26) ?_)))))
      intro z26 hz26
      try replace hz26 := hz26.i64 (by omega)
      refine iQ 1 (iE 50 [(0, Ia i), (3, .p 3 0), (4, .p 4 0), (5, Ba false), (6, Ia z26), (21, Ba false)] [(3, [Iv s, Bv false, Iv 0]), (4, [Iv 0, Iv 0, Iv 0, Iv 0, Bv false, Iv 0])] ?_)
      refine vc_seqr rfl (iQ 1 (iB .quo 3 (.int .i64 z26) (.int .i64 86400) (some 28) ?_))
      refine And.intro (by omega) ?_
      intro z28 hz28
      have h28 := quo_is hz28 (by decide) (by omega) (by omega)
      refine iQ 1 (iB .rem 3 (.int .i64 z26) (.int .i64 86400) (some 30) ?_)
      refine And.intro (by omega) ?_
      intro z30 hz30
      have h30 := fl_up (by decide) h28 hz30
      obtain ⟨t1, t2, t3, _⟩ := td_spec z26 (show (0 : Int) < 86400 by decide)
      rw [← h28, ← hz30] at t1
      rw [← hz30] at t2 t3
      refine iQ 2 (iE 50 [(0, Ia i), (3, .p 3 0), (4, .p 4 0), (5, Ba false), (7, Ia z28), (8, Ia z30), (21, Ba false)] [(3, [Iv s, Bv false, Iv 0]), (4, [Iv 0, Iv 0, Iv 0, Iv 0, Bv false, Iv 0])] ?_)
      refine vc_mid 50 (fun (vcx : Int × Int × Bool) => match vcx with | (q, r, vb32) => [(0, Ia i), (3, .p 3 0), (4, .p 4 0), (5, Ba false), (7, Ia q), (8, Ia r), (21, Ba false), (32, Ba vb32)]) (fun (vcx : Int × Int × Bool) => match vcx with | (q, r, vb32) => [(3, [Iv s, Bv false, Iv 0]), (4, [Iv 0, Iv 0, Iv 0, Iv 0, Bv false, Iv 0])]) (fun (vcx : Int × Int × Bool) => match vcx with | (q, r, vb32) => q = i / 86400 ∧ r = i % 86400) ?_ ?_
      · rintro ⟨q, r, vb32⟩ hinv
        simp only at hinv
        obtain ⟨hq, hr⟩ := hinv
        refine vc_seqr rfl (iQ 1 (iC 49 [Iv q] (some 39) (d4_ex (c_civOf (n := q) (by omega) (by omega))) ?_))
        rintro _ ⟨y, m, d, ok, rfl, hT⟩
        rw [hq] at hT
        refine iQ 6 (iE 50 [(0, Ia i), (3, .p 3 0), (4, .p 4 0), (5, Ba false), (7, Ia q), (8, Ia r), (9, .p 9 0), (10, Ba ok), (21, Ba false), (32, Ba vb32)] [(3, [Iv s, Bv false, Iv 0]), (4, [Iv 0, Iv 0, Iv 0, Iv 0, Bv false, Iv 0]), (9, [Iv y, Iv m, Iv d])] ?_)
        refine vc_seq (vc_seqr rfl (iQ 1 (iU .not (.bool ok) (some 43) ?_)))
        intro c43 hc43
        refine iE 50 [(0, Ia i), (3, .p 3 0), (4, .p 4 0), (5, Ba false), (7, Ia q), (8, Ia r), (9, .p 9 0), (21, Ba false), (32, Ba vb32), (43, Ba c43)] [(3, [Iv s, Bv false, Iv 0]), (4, [Iv 0, Iv 0, Iv 0, Iv 0, Bv false, Iv 0]), (9, [Iv y, Iv m, Iv d])] ?_
        cases c43
        · replace hc43 := bf hc43
          have hok : ok = true := by simpa using hc43
          refine iF (vc_skip (seq_n (vc_seqr rfl (iQ 3 (iE 50 [(0, Ia i), (3, .p 3 0), (4, .p 4 0), (5, Ba false), (7, Ia q), (8, Ia r), (9, .p 9 0), (21, Ba false), (32, Ba vb32), (43, Ba false)] [(3, [Iv r, Bv false, Iv 0]), (4, [Iv 0, Iv 0, Iv 0, Iv 0, Bv false, Iv 0]), (9, [Iv y, Iv m, Iv d])] ?_)))))
          refine vc_seqr rfl (iQ 5 (iE 50 [(0, Ia i), (3, .p 3 0), (4, .p 4 0), (5, Ba true), (7, Ia q), (8, Ia r), (9, .p 9 0), (21, Ba false), (32, Ba vb32), (43, Ba false)] [(3, [Iv r, Bv false, Iv 0]), (4, [Iv y, Iv m, Iv d, Iv r, Bv false, Iv 0]), (9, [Iv y, Iv m, Iv d])] ?_))
          refine vc_ret (iS (.agg [Iv y, Iv m, Iv d, Iv r, Bv false, Iv 0]) (Bv true) [] ?_)
          rw [momT, if_neg (by omega), hT, if_pos hok, ← hr, hok]; rfl
        · replace hc43 := bt hc43
          have hok : ok = false := hc43
          refine iT (vc_seqr rfl (iQ 3 (iE 50 [(0, Ia i), (3, .p 3 0), (4, .p 4 0), (5, Ba false), (7, Ia q), (8, Ia r), (9, .p 9 0), (21, Ba false), (32, Ba vb32), (43, Ba true)] [(3, [Iv s, Bv false, Iv 0]), (4, [Iv 0, Iv 0, Iv 0, Iv 0, Bv false, Iv 0]), (9, [Iv y, Iv m, Iv d])] ?_)))
          refine vc_ret (seq_r (iS (.agg [Iv 0, Iv 0, Iv 0, Iv 0, Bv false, Iv 0]) (Bv false) [] ?_))
          rw [momT, if_neg (by omega), hT, if_neg (by simp [hok])]; rfl
      intro hmid
      refine vc_seqr rfl (iQ 1 (iB .lss 3 (.int .i64 z30) (.int .i64 0) (some 32) ?_))
      intro c32 hc32
      refine iE 50 [(0, Ia i), (3, .p 3 0), (4, .p 4 0), (5, Ba false), (7, Ia z28), (8, Ia z30), (21, Ba false), (32, Ba c32)] [(3, [Iv s, Bv false, Iv 0]), (4, [Iv 0, Iv 0, Iv 0, Iv 0, Bv false, Iv 0])] ?_
      cases c32
      · replace hc32 := bf hc32
        refine iF (vc_skip ?_)
        refine mid_n hmid (z28, z30, false) (⟨by rw [h30.2 hc32] at *; omega, by omega⟩) (by kernel_rfl)
      · replace hc32 := bt hc32
        refine iT (vc_reg rfl (iQ 1 (iB .sub 3 (.int .i64 z28) (.int .i64 1) (some 34) ?_)))
        intro z34 hz34
        try replace hz34 := hz34.i64 (by omega)
        refine iQ 1 (iB .add 3 (.int .i64 z30) (.int .i64 86400) (some 36) ?_)
        intro z36 hz36
        try replace hz36 := hz36.i64 (by omega)
        refine iQ 2 (iE 50 [(0, Ia i), (3, .p 3 0), (4, .p 4 0), (5, Ba false), (7, Ia z34), (8, Ia z36), (21, Ba false), (32, Ba true)] [(3, [Iv s, Bv false, Iv 0]), (4, [Iv 0, Iv 0, Iv 0, Iv 0, Bv false, Iv 0])] ?_)
        refine mid_n hmid (z34, z36, true) (⟨by omega, by omega⟩) (by kernel_rfl)
    · replace hc15 := bt hc15
      refine iQ 4 (iE 50 [(0, Ia i), (3, .p 3 0), (4, .p 4 0), (5, Ba false), (21, Ba true)] [(3, [Iv s, Bv false, Iv 0]), (4, [Iv 0, Iv 0, Iv 0, Iv 0, Bv false, Iv 0])] ?_)
      refine iT (vc_seqr rfl (iQ 3 (iE 50 [(0, Ia i), (3, .p 3 0), (4, .p 4 0), (5, Ba false), (21, Ba true)] [(3, [Iv s, Bv false, Iv 0]), (4, [Iv 0, Iv 0, Iv 0, Iv 0, Bv false, Iv 0])] ?_)))
      refine vc_ret (seq_r (iS (.agg [Iv 0, Iv 0, Iv 0, Iv 0, Bv false, Iv 0]) (Bv false) [] ?_))
      rw [momT, if_pos (by omega)]; rfl
  · replace hc12 := bt hc12
    refine iQ 8 (iE 50 [(0, Ia i), (3, .p 3 0), (4, .p 4 0), (5, Ba false), (21, Ba true)] [(3, [Iv s, Bv false, Iv 0]), (4, [Iv 0, Iv 0, Iv 0, Iv 0, Bv false, Iv 0])] ?_)
    refine iT (vc_seqr rfl (iQ 3 (iE 50 [(0, Ia i), (3, .p 3 0), (4, .p 4 0), (5, Ba false), (21, Ba true)] [(3, [Iv s, Bv false, Iv 0]), (4, [Iv 0, Iv 0, Iv 0, Iv 0, Bv false, Iv 0])] ?_)))
    refine vc_ret (seq_r (iS (.agg [Iv 0, Iv 0, Iv 0, Iv 0, Bv false, Iv 0]) (Bv false) [] ?_))
    rw [momT, if_pos (by omega)]; rfl

/-- The moment so many seconds later. -/
def lateT (y m d s n : Int) : D4 × Int := if n < -9007199254740992 ∨ 9007199254740992 < n then ((0, 0, 0, false), 0) else momT (86400 * numI y m d + s + n)
theorem mom_ex {P : Program} {f : FuncId} {ds : List DV} {t : D4 × Int} (h : HasC P f ds (fun y => y = dMom t)) : HasC P f ds (fun r => ∃ y m d s ok, r = .tup [.agg [.v (.int .i64 y), .v (.int .i64 m), .v (.int .i64 d), .v (.int .i64 s), .v (.bool false), .v (.int .i64 0)], .v (.bool ok)] ∧ t = ((y, m, d, ok), s)) :=
  h.mono fun y hy => ⟨_, _, _, _, _, hy, rfl⟩

theorem c_momLater {y m d s n : Int} (hmay : mayD y m d) (hs0 : 0 ≤ s) (hs1 : s < 86400) (h0 : -9223372036854775808 ≤ n) (h1 : n ≤ 9223372036854775807) : HasC Try.prog 46 [.agg [.v (.int .i64 y), .v (.int .i64 m), .v (.int .i64 d), .v (.int .i64 s), .v (.bool false), .v (.int .i64 0)], .v (.int .i64 n)] (fun r => r = dMom (lateT y m d s n)) := by
  refine HasC.of [] (fn := Try.f46) tyOk mixed (fun args w => Try.call46 args w) Try.func46 rfl (by kernel_rfl) (Nat.le_of_ble_eq_true rfl) (⟨_, rfl⟩) ?_
  have hn := numI_rng hmay
  refine vc_seqr rfl (iQ 3 (iE 32 [(1, Ia n), (2, .p 2 0), (4, .p 4 0), (5, Ba false)] [(2, [Iv y, Iv m, Iv d, Iv s, Bv false, Iv 0]), (4, [Iv 0, Iv 0, Iv 0, Iv 0, Bv false, Iv 0])] ?_))
  refine vc_seqr rfl (iQ 1 (iC 86 [.agg [Iv y, Iv m, Iv d, Iv s, Bv false, Iv 0]] (some 10) (c_Instant hmay hs0 hs1) ?_))
  rintro _ rfl
  refine iQ 5 (iE 32 [(1, Ia n), (2, .p 2 0), (4, .p 4 0), (5, Ba false), (6, Ia (86400 * numI y m d + s)), (7, Ba true)] [(2, [Iv y, Iv m, Iv d, Iv s, Bv false, Iv 0]), (4, [Iv 0, Iv 0, Iv 0, Iv 0, Bv false, Iv 0])] ?_)
  refine vc_seq (vc_seqr rfl (iQ 1 (iU .not (.bool true) (some 14) ?_)))
  refine all_false ((by simp)) ?_
  refine iQ 2 (iB .lss 3 (.int .i64 n) (.int .i64 (-9007199254740992)) (some 17) ?_)
  intro c17 hc17
  refine iQ 2 ?_
  cases c17
  · replace hc17 := bf hc17
    refine iQ 1 (iB .gtr 3 (.int .i64 n) (.int .i64 9007199254740992) (some 21) ?_)
    intro c21 hc21
    refine iQ 1 (iE 32 [(1, Ia n), (2, .p 2 0), (4, .p 4 0), (5, Ba false), (6, Ia (86400 * numI y m d + s)), (22, Ba c21)] [(2, [Iv y, Iv m, Iv d, Iv s, Bv false, Iv 0]), (4, [Iv 0, Iv 0, Iv 0, Iv 0, Bv false, Iv 0])] ?_)
    cases c21
    · replace hc21 := bf hc21
      refine iF (vc_skip (seq_n (vc_seqr rfl (iQ 2 (iB .add 3 (.int .i64 (86400 * numI y m d + s)) (.int .i64 n) (some 26) ?_)))))
      intro z26 hz26
      try replace hz26 := hz26.i64 (by omega)
      refine iQ 2 (iC 87 [Iv z26, .agg [Iv s, Bv false, Iv 0]] (some 29) (mom_ex (c_momOf (i := z26) (by omega) (by omega) hs0 hs1)) ?_)
      rintro _ ⟨y2, m2, d2, s2, ok, rfl, hT⟩
      refine iQ 4 (iE 32 [(1, Ia n), (2, .p 2 0), (4, .p 4 0), (5, Ba ok), (22, Ba false)] [(2, [Iv y, Iv m, Iv d, Iv s, Bv false, Iv 0]), (4, [Iv y2, Iv m2, Iv d2, Iv s2, Bv false, Iv 0])] ?_)
      refine vc_ret (iS (.agg [Iv y2, Iv m2, Iv d2, Iv s2, Bv false, Iv 0]) (Bv ok) [] ?_)
      rw [lateT, if_neg (by omega), ← hz26, hT]; rfl
    · replace hc21 := bt hc21
      refine iT (vc_seqr rfl (iQ 3 (iE 32 [(1, Ia n), (2, .p 2 0), (4, .p 4 0), (5, Ba false), (6, Ia (86400 * numI y m d + s)), (22, Ba true)] [(2, [Iv y, Iv m, Iv d, Iv s, Bv false, Iv 0]), (4, [Iv 0, Iv 0, Iv 0, Iv 0, Bv false, Iv 0])] ?_)))
      refine vc_ret (seq_r (iS (.agg [Iv 0, Iv 0, Iv 0, Iv 0, Bv false, Iv 0]) (Bv false) [] ?_))
      rw [lateT, if_pos (by omega)]; rfl
  · replace hc17 := bt hc17
    refine iQ 3 (iE 32 [(1, Ia n), (2, .p 2 0), (4, .p 4 0), (5, Ba false), (6, Ia (86400 * numI y m d + s)), (22, Ba true)] [(2, [Iv y, Iv m, Iv d, Iv s, Bv false, Iv 0]), (4, [Iv 0, Iv 0, Iv 0, Iv 0, Bv false, Iv 0])] ?_)
    refine iT (vc_seqr rfl (iQ 3 (iE 32 [(1, Ia n), (2, .p 2 0), (4, .p 4 0), (5, Ba false), (6, Ia (86400 * numI y m d + s)), (22, Ba true)] [(2, [Iv y, Iv m, Iv d, Iv s, Bv false, Iv 0]), (4, [Iv 0, Iv 0, Iv 0, Iv 0, Bv false, Iv 0])] ?_)))
    refine vc_ret (seq_r (iS (.agg [Iv 0, Iv 0, Iv 0, Iv 0, Bv false, Iv 0]) (Bv false) [] ?_))
    rw [lateT, if_pos (by omega)]; rfl

/-- The day so many seconds later. -/
def dlT (y m d n : Int) : D4 := (lateT y m d 0 n).1
theorem c_DateLater {y m d n : Int} (hmay : mayD y m d) (h0 : -9223372036854775808 ≤ n) (h1 : n ≤ 9223372036854775807) : HasC Try.prog 45 [.agg [.v (.int .i64 y), .v (.int .i64 m), .v (.int .i64 d)], .v (.int .i64 n)] (fun r => r = dD4 (dlT y m d n)) := by
  refine HasC.of [] (fn := Try.f45) tyOk mixed (fun args w => Try.call45 args w) Try.func45 rfl (by kernel_rfl) (Nat.le_of_ble_eq_true rfl) (⟨_, rfl⟩) ?_
  refine vc_seqr rfl (iQ 3 (iE 18 [(1, Ia n), (2, .p 2 0), (4, .p 4 0), (5, Ba false)] [(2, [Iv y, Iv m, Iv d]), (4, [Iv 0, Iv 0, Iv 0])] ?_))
  refine vc_seqr rfl (iQ 3 (iC 46 [.agg [Iv y, Iv m, Iv d, Iv 0, Bv false, Iv 0], Iv n] (some 12) (mom_ex (c_momLater (s := 0) hmay (by decide) (by decide) h0 h1)) ?_))
  rintro _ ⟨y2, m2, d2, s2, ok, rfl, hT⟩
  refine iQ 6 (iE 18 [(4, .p 4 0), (5, Ba false), (6, .p 6 0), (7, Ba ok)] [(4, [Iv 0, Iv 0, Iv 0]), (6, [Iv y2, Iv m2, Iv d2, Iv s2, Bv false, Iv 0])] ?_)
  refine vc_seqr rfl (iQ 5 (iE 18 [(4, .p 4 0), (5, Ba ok), (6, .p 6 0)] [(4, [Iv y2, Iv m2, Iv d2]), (6, [Iv y2, Iv m2, Iv d2, Iv s2, Bv false, Iv 0])] ?_))
  refine vc_ret (iS (.agg [Iv y2, Iv m2, Iv d2]) (Bv ok) [] ?_)
  rw [dlT, hT]; rfl

theorem c_momBetween {y m d y' m' d' : Int} (hmay : mayD y m d) (hmay' : mayD y' m' d') : HasC Try.prog 90 [.agg [.v (.int .i64 y), .v (.int .i64 m), .v (.int .i64 d), .v (.int .i64 0), .v (.bool false), .v (.int .i64 0)], .agg [.v (.int .i64 y'), .v (.int .i64 m'), .v (.int .i64 d'), .v (.int .i64 0), .v (.bool false), .v (.int .i64 0)]] (fun r => r = .tup [.v (.int .i64 (86400 * (numI y' m' d' - numI y m d))), .v (.bool true)]) := by
  refine HasC.of [] (fn := Try.f90) tyOk mixed (fun args w => Try.call90 args w) Try.func90 rfl (by kernel_rfl) (Nat.le_of_ble_eq_true rfl) (⟨_, rfl⟩) ?_
  have hn := numI_rng hmay; have hn' := numI_rng hmay'
  refine vc_seqr rfl (iQ 4 (iE 38 [(2, .p 2 0), (3, .p 3 0), (4, Ia 0), (5, Ba false)] [(2, [Iv y, Iv m, Iv d, Iv 0, Bv false, Iv 0]), (3, [Iv y', Iv m', Iv d', Iv 0, Bv false, Iv 0])] ?_))
  refine vc_seqr rfl (iQ 1 (iC 86 [.agg [Iv y, Iv m, Iv d, Iv 0, Bv false, Iv 0]] (some 12) (c_Instant hmay (by decide) (by decide)) ?_))
  rintro _ rfl
  refine iQ 5 (iE 38 [(2, .p 2 0), (3, .p 3 0), (4, Ia 0), (5, Ba false), (6, Ia (86400 * numI y m d + 0)), (7, Ba true)] [(2, [Iv y, Iv m, Iv d, Iv 0, Bv false, Iv 0]), (3, [Iv y', Iv m', Iv d', Iv 0, Bv false, Iv 0])] ?_)
  refine vc_seqr rfl (iQ 1 (iC 86 [.agg [Iv y', Iv m', Iv d', Iv 0, Bv false, Iv 0]] (some 17) (c_Instant hmay' (by decide) (by decide)) ?_))
  rintro _ rfl
  refine iQ 5 (iE 38 [(2, .p 2 0), (3, .p 3 0), (4, Ia 0), (5, Ba false), (6, Ia (86400 * numI y m d + 0)), (7, Ba true), (8, Ia (86400 * numI y' m' d' + 0)), (9, Ba true)] [(2, [Iv y, Iv m, Iv d, Iv 0, Bv false, Iv 0]), (3, [Iv y', Iv m', Iv d', Iv 0, Bv false, Iv 0])] ?_)
  refine vc_seq (vc_seqr rfl (iQ 1 (iU .not (.bool true) (some 21) ?_)))
  refine all_false ((by simp)) ?_
  refine iQ 2 (iU .not (.bool true) (some 24) ?_)
  refine all_false ((by simp)) ?_
  refine iQ 8 (iB .neq 4 (.bool false) (.bool false) (some 33) ?_)
  refine all_false ((by simp)) ?_
  refine iQ 1 (iE 38 [(2, .p 2 0), (3, .p 3 0), (4, Ia 0), (5, Ba false), (6, Ia (86400 * numI y m d + 0)), (8, Ia (86400 * numI y' m' d' + 0)), (34, Ba false)] [(2, [Iv y, Iv m, Iv d, Iv 0, Bv false, Iv 0]), (3, [Iv y', Iv m', Iv d', Iv 0, Bv false, Iv 0])] ?_)
  refine iF (vc_skip (seq_n (vc_seqr rfl (iQ 2 (iB .sub 3 (.int .i64 (86400 * numI y' m' d' + 0)) (.int .i64 (86400 * numI y m d + 0)) (some 37) ?_)))))
  intro z37 hz37
  try replace hz37 := hz37.i64 (by omega)
  refine iQ 2 (iE 38 [(2, .p 2 0), (3, .p 3 0), (4, Ia z37), (5, Ba true), (34, Ba false)] [(2, [Iv y, Iv m, Iv d, Iv 0, Bv false, Iv 0]), (3, [Iv y', Iv m', Iv d', Iv 0, Bv false, Iv 0])] ?_)
  refine vc_ret (iS (Iv z37) (Bv true) [] ?_)
  rw [show 86400 * (numI y' m' d' - numI y m d) = z37 by omega]
theorem c_DatesBetween {y m d y' m' d' : Int} (hmay : mayD y m d) (hmay' : mayD y' m' d') : HasC Try.prog 48 [.agg [.v (.int .i64 y), .v (.int .i64 m), .v (.int .i64 d)], .agg [.v (.int .i64 y'), .v (.int .i64 m'), .v (.int .i64 d')]] (fun r => r = .tup [.v (.int .i64 (86400 * (numI y' m' d' - numI y m d))), .v (.bool true)]) := by
  refine HasC.of [] (fn := Try.f48) tyOk mixed (fun args w => Try.call48 args w) Try.func48 rfl (by kernel_rfl) (Nat.le_of_ble_eq_true rfl) (⟨_, rfl⟩) ?_
  refine vc_seqr rfl (iQ 4 (iE 13 [(2, .p 2 0), (3, .p 3 0), (4, Ia 0), (5, Ba false)] [(2, [Iv y, Iv m, Iv d]), (3, [Iv y', Iv m', Iv d'])] ?_))
  refine vc_seqr rfl (iQ 4 (iC 90 [.agg [Iv y, Iv m, Iv d, Iv 0, Bv false, Iv 0], .agg [Iv y', Iv m', Iv d', Iv 0, Bv false, Iv 0]] (some 10) (c_momBetween hmay hmay') ?_))
  rintro _ rfl
  refine iQ 4 (iE 13 [(4, Ia (86400 * (numI y' m' d' - numI y m d))), (5, Ba true)] [] ?_)
  refine vc_ret (iS (Iv (86400 * (numI y' m' d' - numI y m d))) (Bv true) [] ?_)
  rfl

-- durations
def mayN (n : Int) : Prop := -9007199254740992 ≤ n ∧ n ≤ 9007199254740992
instance (n : Int) : Decidable (mayN n) := inferInstanceAs (Decidable (_ ∧ _))
theorem c_spanMay {n : Int} : HasC Try.prog 42 [.v (.int .i64 n)] (fun r => ∃ b, r = .v (.bool b) ∧ (b = true ↔ mayN n)) := by
  refine HasC.of [] (fn := Try.f42) tyOk mixed (fun args w => Try.call42 args w) Try.func42 rfl (by kernel_rfl) (Nat.le_of_ble_eq_true rfl) (⟨_, decide (mayN n), rfl, by simp⟩) ?_
  refine vc_seqr rfl (iQ 1 (iE 9 [(0, Ia n), (2, Ba false)] [] ?_))
  refine vc_seqr rfl (iQ 1 (iB .geq 3 (.int .i64 n) (.int .i64 (-9007199254740992)) (some 4) ?_))
  intro c4 hc4
  refine iQ 1 ?_
  cases c4
  · replace hc4 := bf hc4
    refine iQ 4 (iE 9 [(2, Ba false)] [] ?_)
    refine vc_ret (iR (Bv false) ?_)
    exact ⟨_, rfl, ⟨fun h => (by cases h), fun h => by unfold mayN at h; omega⟩⟩
  · replace hc4 := bt hc4
    refine iQ 1 (iB .leq 3 (.int .i64 n) (.int .i64 9007199254740992) (some 7) ?_)
    intro c7 hc7
    refine iQ 2 (iE 9 [(2, Ba c7)] [] ?_)
    refine vc_ret (iR (Bv c7) ?_)
    exact ⟨_, rfl, by rw [hc7]; unfold mayN; omega⟩
theorem c_lawMay {n : Int} : HasC Try.prog 39 [.v (.int .i64 n)] (fun r => ∃ b, r = .v (.bool b) ∧ (b = true ↔ mayN n)) := by
  refine HasC.of [] (fn := Try.f39) tyOk mixed (fun args w => Try.call39 args w) Try.func39 rfl (by kernel_rfl) (Nat.le_of_ble_eq_true rfl) (⟨_, decide (mayN n), rfl, by simp⟩) ?_
  refine vc_seqr rfl (iQ 1 (iE 9 [(0, Ia n), (2, Ba false)] [] ?_))
  refine vc_seqr rfl (iQ 1 (iB .geq 3 (.int .i64 n) (.int .i64 (-9007199254740992)) (some 4) ?_))
  intro c4 hc4
  refine iQ 1 ?_
  cases c4
  · replace hc4 := bf hc4
    refine iQ 4 (iE 9 [(2, Ba false)] [] ?_)
    refine vc_ret (iR (Bv false) ?_)
    exact ⟨_, rfl, ⟨fun h => (by cases h), fun h => by unfold mayN at h; omega⟩⟩
  · replace hc4 := bt hc4
    refine iQ 1 (iB .leq 3 (.int .i64 n) (.int .i64 9007199254740992) (some 7) ?_)
    intro c7 hc7
    refine iQ 2 (iE 9 [(2, Ba c7)] [] ?_)
    refine vc_ret (iR (Bv c7) ?_)
    exact ⟨_, rfl, by rw [hc7]; unfold mayN; omega⟩

/-- What reads as a duration: the whole number, if there is one that may be. -/
structure SpanIs (s : Bool) (A : Nat) (e z : Int) (ok : Bool) : Prop where
  yes : ok = true → isW (wholeT 5 s A e).1 (wholeT 5 s A e).2.1 (wholeT 5 s A e).2.2 z ∧ mayN z
  no : ok = false → z = 0 ∧ ∀ v, isW (wholeT 5 s A e).1 (wholeT 5 s A e).2.1 (wholeT 5 s A e).2.2 v → ¬ mayN v
theorem mayN_I {v : Int} (h : mayN v) : inI v := by
  unfold mayN at h
  unfold inI
  omega
theorem SpanIs.ex (s : Bool) (A : Nat) (e : Int) : ∃ z ok, SpanIs s A e z ok := by
  by_cases h : ∃ v, isW (wholeT 5 s A e).1 (wholeT 5 s A e).2.1 (wholeT 5 s A e).2.2 v ∧ mayN v
  · obtain ⟨v, h1, h2⟩ := h
    exact ⟨v, true, fun _ => ⟨h1, h2⟩, fun k => by cases k⟩
  · exact ⟨0, false, (fun k => by cases k), fun _ => ⟨rfl, fun v h1 h2 => h ⟨v, h1, h2⟩⟩⟩
theorem SpanIs.fn {s : Bool} {A : Nat} {e z z' : Int} {ok ok' : Bool} (h : SpanIs s A e z ok) (h' : SpanIs s A e z' ok') : z = z' ∧ ok = ok' := by
  cases ok <;> cases ok'
  · exact ⟨(h.no rfl).1.trans (h'.no rfl).1.symm, rfl⟩
  · exact absurd (h'.yes rfl).2 ((h.no rfl).2 _ (h'.yes rfl).1)
  · exact absurd (h.yes rfl).2 ((h'.no rfl).2 _ (h.yes rfl).1)
  · exact ⟨isW_fn (h.yes rfl).1 (h'.yes rfl).1, rfl⟩

theorem whole_dec {m : Int} {s : Bool} {A : Nat} {e : Int} (hA : A < E34) (hs : A = 0 → s = false) (h1 : -6176 ≤ e) (h2 : e ≤ 6111) (hm0 : 1 ≤ m) (hm1 : m ≤ 7) : HasC Try.prog 22 [dDec s A e, .v (.int .i64 m)] (fun y => y = dDec (wholeT m s A e).1 (wholeT m s A e).2.1 (wholeT m s A e).2.2) := c_rndWhole hA hs h1 h2 hm0 hm1

theorem c_spanWhole {s : Bool} {A : Nat} {e : Int} (hA : A < E34) (hs : A = 0 → s = false) (h1 : -6176 ≤ e) (h2 : e ≤ 6111) : HasC Try.prog 83 [.agg [.v (.bool s), .v (.int .u64 (hiW (A))), .v (.int .u64 (loW (A))), .v (.int .i64 e)]] (fun r => ∃ z ok, r = .tup [.v (.int .i64 z), .v (.bool ok)] ∧ SpanIs s A e z ok) := by
  refine HasC.of [] (fn := Try.f83) tyOk mixed (fun args w => Try.call83 args w) Try.func83 rfl (by kernel_rfl) (Nat.le_of_ble_eq_true rfl) (let ⟨z, ok, h⟩ := SpanIs.ex s A e; ⟨_, z, ok, rfl, h⟩) ?_
  refine vc_seqr rfl (iQ 3 (iE 20 [(1, .p 1 0), (2, Ia 0), (3, Ba false)] [(1, [Bv s, Hw A, Lw A, Iv e])] ?_))
  refine vc_seqr rfl (iQ 1 (iC 22 [.agg [Bv s, Hw A, Lw A, Iv e], Iv 5] (some 8) (whole_dec (m := 5) hA hs h1 h2 (by decide) (by decide)) ?_))
  rintro _ rfl
  obtain ⟨w1, w2, w3, w4⟩ := whole_range (m := 5) hA hs h2
  refine iC 84 [.agg [Bv ((wholeT 5 s A e).1), Hw ((wholeT 5 s A e).2.1), Lw ((wholeT 5 s A e).2.1), Iv ((wholeT 5 s A e).2.2)]] (some 9) (c_Whole (Nat.lt_trans w1 e34_lt) (by omega) (by omega)) ?_
  rintro _ ⟨z, ok, rfl, hy1, hy0⟩
  refine iQ 5 (iE 20 [(2, Ia 0), (3, Ba false), (4, Ia z), (5, Ba ok)] [] ?_)
  refine vc_seq (vc_seqr rfl (iQ 1 (iU .not (.bool ok) (some 13) ?_)))
  intro c13 hc13
  refine iQ 1 ?_
  cases c13
  · replace hc13 := bf hc13
    refine iQ 1 ?_
    have hok : ok = true := by simpa using hc13
    obtain ⟨k1, k2⟩ := hy1 hok
    refine iC 42 [Iv z] (some 16) (c_spanMay) ?_
    rintro _ ⟨b, rfl, hb⟩
    refine iU .not (.bool b) (some 17) ?_
    intro c17 hc17
    refine iQ 1 (iE 20 [(2, Ia 0), (3, Ba false), (4, Ia z), (18, Ba c17)] [] ?_)
    cases c17
    · replace hc17 := bf hc17
      have hb1 : mayN z := hb.1 (by simpa using hc17)
      refine iF (vc_skip (seq_n (vc_seqr rfl (iQ 3 (iE 20 [(2, Ia z), (3, Ba true), (4, Ia z), (18, Ba false)] [] ?_)))))
      refine vc_ret (iS (Iv z) (Bv true) [] ?_)
      exact ⟨_, _, rfl, fun _ => ⟨k1, hb1⟩, fun k => by cases k⟩
    · replace hc17 := bt hc17
      have hb1 : ¬ mayN z := fun k => by rw [hb.2 k] at hc17; cases hc17
      refine iT (vc_seqr rfl (iQ 2 (iE 20 [(2, Ia 0), (3, Ba false), (4, Ia z), (18, Ba true)] [] ?_)))
      refine vc_ret (seq_r (iS (Iv 0) (Bv false) [] ?_))
      exact ⟨_, _, rfl, (fun k => by cases k), fun _ => ⟨rfl, fun v hv => by rw [isW_fn hv k1]; exact hb1⟩⟩
  · replace hc13 := bt hc13
    refine iQ 4 (iE 20 [(2, Ia 0), (3, Ba false), (4, Ia z), (18, Ba true)] [] ?_)
    have hok : ok = false := hc13
    refine iT (vc_seqr rfl (iQ 2 (iE 20 [(2, Ia 0), (3, Ba false), (4, Ia z), (18, Ba true)] [] ?_)))
    refine vc_ret (seq_r (iS (Iv 0) (Bv false) [] ?_))
    exact ⟨_, _, rfl, (fun k => by cases k), fun _ => ⟨rfl, fun v hv k => (hy0 hok).2 v hv (mayN_I k)⟩⟩

theorem c_lawWhole {s ok1 : Bool} {A : Nat} {e : Int} (hA : A < E34) (hs : A = 0 → s = false) (h1 : -6176 ≤ e) (h2 : e ≤ 6111) : HasC Try.prog 38 [.agg [.v (.bool s), .v (.int .u64 (hiW (A))), .v (.int .u64 (loW (A))), .v (.int .i64 e)], .v (.bool ok1)] (fun r => ∃ z ok, r = .tup [.v (.int .i64 z), .v (.bool ok)] ∧ (ok1 = true → SpanIs s A e z ok) ∧ (ok1 = false → z = 0 ∧ ok = false)) := by
  refine HasC.of [] (fn := Try.f38) tyOk mixed (fun args w => Try.call38 args w) Try.func38 rfl (by kernel_rfl) (Nat.le_of_ble_eq_true rfl) (let ⟨z, ok, h⟩ := SpanIs.ex s A e; ⟨_, if ok1 then z else 0, if ok1 then ok else false, rfl, fun k => by rw [k]; exact h, fun k => by rw [k]; exact ⟨rfl, rfl⟩⟩) ?_
  refine vc_seqr rfl (iQ 3 (iE 26 [(1, Ba ok1), (2, .p 2 0), (4, Ia 0), (5, Ba false)] [(2, [Bv s, Hw A, Lw A, Iv e])] ?_))
  refine vc_seqr rfl (iQ 1 (iC 22 [.agg [Bv s, Hw A, Lw A, Iv e], Iv 5] (some 10) (whole_dec (m := 5) hA hs h1 h2 (by decide) (by decide)) ?_))
  rintro _ rfl
  obtain ⟨w1, w2, w3, w4⟩ := whole_range (m := 5) hA hs h2
  refine iC 84 [.agg [Bv ((wholeT 5 s A e).1), Hw ((wholeT 5 s A e).2.1), Lw ((wholeT 5 s A e).2.1), Iv ((wholeT 5 s A e).2.2)]] (some 11) (c_Whole (Nat.lt_trans w1 e34_lt) (by omega) (by omega)) ?_
  rintro _ ⟨z, ok, rfl, hy1, hy0⟩
  refine iQ 5 (iE 26 [(1, Ba ok1), (4, Ia 0), (5, Ba false), (6, Ia z), (7, Ba ok)] [] ?_)
  refine vc_seq (vc_seqr rfl (iQ 1 (iU .not (.bool ok1) (some 15) ?_)))
  intro c15 hc15
  refine iQ 1 ?_
  cases c15
  · replace hc15 := bf hc15
    refine iQ 1 (iU .not (.bool ok) (some 18) ?_)
    have hok1 : ok1 = true := by simpa using hc15
    intro c18 hc18
    refine iQ 2 ?_
    cases c18
    · replace hc18 := bf hc18
      refine iQ 1 ?_
      have hok : ok = true := by simpa using hc18
      obtain ⟨k1, k2⟩ := hy1 hok
      refine iC 39 [Iv z] (some 22) (c_lawMay) ?_
      rintro _ ⟨b, rfl, hb⟩
      refine iU .not (.bool b) (some 23) ?_
      intro c23 hc23
      refine iQ 1 (iE 26 [(4, Ia 0), (5, Ba false), (6, Ia z), (24, Ba c23)] [] ?_)
      cases c23
      · replace hc23 := bf hc23
        have hb1 : mayN z := hb.1 (by simpa using hc23)
        refine iF (vc_skip (seq_n (vc_seqr rfl (iQ 3 (iE 26 [(4, Ia z), (5, Ba true), (6, Ia z), (24, Ba false)] [] ?_)))))
        refine vc_ret (iS (Iv z) (Bv true) [] ?_)
        exact ⟨_, _, rfl, fun _ => ⟨fun _ => ⟨k1, hb1⟩, fun k => by cases k⟩, fun k => by rw [k] at hok1; cases hok1⟩
      · replace hc23 := bt hc23
        have hb1 : ¬ mayN z := fun k => by rw [hb.2 k] at hc23; cases hc23
        refine iT (vc_seqr rfl (iQ 2 (iE 26 [(4, Ia 0), (5, Ba false), (6, Ia z), (24, Ba true)] [] ?_)))
        refine vc_ret (seq_r (iS (Iv 0) (Bv false) [] ?_))
        exact ⟨_, _, rfl, fun _ => ⟨(fun k => by cases k), fun _ => ⟨rfl, fun v hv => by rw [isW_fn hv k1]; exact hb1⟩⟩, fun _ => ⟨rfl, rfl⟩⟩
    · replace hc18 := bt hc18
      refine iQ 4 (iE 26 [(4, Ia 0), (5, Ba false), (6, Ia z), (24, Ba true)] [] ?_)
      have hok : ok = false := hc18
      refine iT (vc_seqr rfl (iQ 2 (iE 26 [(4, Ia 0), (5, Ba false), (6, Ia z), (24, Ba true)] [] ?_)))
      refine vc_ret (seq_r (iS (Iv 0) (Bv false) [] ?_))
      exact ⟨_, _, rfl, fun _ => ⟨(fun k => by cases k), fun _ => ⟨rfl, fun v hv k => (hy0 hok).2 v hv (mayN_I k)⟩⟩, fun _ => ⟨rfl, rfl⟩⟩
  · replace hc15 := bt hc15
    refine iQ 8 (iE 26 [(4, Ia 0), (5, Ba false), (6, Ia z), (24, Ba true)] [] ?_)
    have hok1 : ok1 = false := hc15
    refine iT (vc_seqr rfl (iQ 2 (iE 26 [(4, Ia 0), (5, Ba false), (6, Ia z), (24, Ba true)] [] ?_)))
    refine vc_ret (seq_r (iS (Iv 0) (Bv false) [] ?_))
    exact ⟨_, _, rfl, (fun k => by rw [hok1] at k; cases k), fun _ => ⟨rfl, rfl⟩⟩

/-- What Times, Over answer, of the number that is a product, a quotient. -/
structure TimesIs (n : Int) (t : T4) (z : Int) (ok : Bool) : Prop where
  yes : mayN n → t.2.2.2 = true → SpanIs t.1 t.2.1 t.2.2.1 z ok
  no : ¬ mayN n ∨ t.2.2.2 = false → z = 0 ∧ ok = false
theorem TimesIs.ex (n : Int) (t : T4) : ∃ z ok, TimesIs n t z ok := by
  by_cases h : mayN n ∧ t.2.2.2 = true
  · obtain ⟨z, ok, k⟩ := SpanIs.ex t.1 t.2.1 t.2.2.1
    exact ⟨z, ok, fun _ _ => k, fun q => by rcases q with q | q; exact absurd h.1 q; rw [h.2] at q; cases q⟩
  · exact ⟨0, false, fun h1 h2 => absurd ⟨h1, h2⟩ h, fun _ => ⟨rfl, rfl⟩⟩

theorem c_Times {n : Int} {s : Bool} {A : Nat} {e : Int} (hn0 : -9223372036854775808 ≤ n) (hn1 : n ≤ 9223372036854775807) (hA : A < E34) (h1 : -6176 ≤ e) (h2 : e ≤ 6111) : HasC Try.prog 36 [.v (.int .i64 n), .agg [.v (.bool s), .v (.int .u64 (hiW (A))), .v (.int .u64 (loW (A))), .v (.int .i64 e)]] (fun r => ∃ z ok, r = .tup [.v (.int .i64 z), .v (.bool ok)] ∧ TimesIs n (mulT (decide (n < 0), n.natAbs, 0, true) (s, A, e, true)) z ok) := by
  refine HasC.of [] (fn := Try.f36) tyOk mixed (fun args w => Try.call36 args w) Try.func36 rfl (by kernel_rfl) (Nat.le_of_ble_eq_true rfl) (let ⟨z, ok, h⟩ := TimesIs.ex n (mulT (decide (n < 0), n.natAbs, 0, true) (s, A, e, true)); ⟨_, z, ok, rfl, h⟩) ?_
  refine vc_seqr rfl (iQ 3 (iE 26 [(0, Ia n), (3, .p 3 0), (4, Ia 0), (5, Ba false)] [(3, [Bv s, Hw A, Lw A, Iv e])] ?_))
  refine vc_seqr rfl (iQ 1 (iC 26 [Iv n] (some 10) (c_Int hn0 hn1) ?_))
  rintro _ rfl
  have hnE : n.natAbs < B128 := by unfold B128; omega
  refine iQ 1 (iC 29 [.agg [Bv (decide (n < 0)), Hw n.natAbs, Lw n.natAbs, Iv 0], .agg [Bv s, Hw A, Lw A, Iv e]] (some 12) (c_decMulT (o1 := true) (o2 := true) hnE (Nat.lt_trans hA e34_lt) (by decide) (by decide) (by omega) (by omega)) ?_)
  rintro _ ⟨g, k, x, ok, rfl, hM⟩
  obtain ⟨m1, m2, m3, m4⟩ := mul_range hM
  refine iQ 6 (iE 26 [(0, Ia n), (4, Ia 0), (5, Ba false), (6, .p 6 0), (7, Ba ok)] [(6, [Bv g, Hw k, Lw k, Iv x])] ?_)
  refine vc_seq (vc_seqr rfl (iQ 1 (iU .not (.bool ok) (some 16) ?_)))
  intro c16 hc16
  refine iQ 1 ?_
  cases c16
  · replace hc16 := bf hc16
    refine iQ 1 ?_
    have hok : ok = true := by simpa using hc16
    refine iC 42 [Iv n] (some 19) (c_spanMay) ?_
    rintro _ ⟨b, rfl, hb⟩
    refine iU .not (.bool b) (some 20) ?_
    intro c20 hc20
    refine iQ 1 (iE 26 [(0, Ia n), (4, Ia 0), (5, Ba false), (6, .p 6 0), (21, Ba c20)] [(6, [Bv g, Hw k, Lw k, Iv x])] ?_)
    cases c20
    · replace hc20 := bf hc20
      have hb1 : mayN n := hb.1 (by simpa using hc20)
      refine iF (vc_skip (seq_n (vc_seqr rfl (iQ 1 (iC 83 [.agg [Bv g, Hw k, Lw k, Iv x]] (some 23) (c_spanWhole m1 m4 m2 m3) ?_)))))
      rintro _ ⟨z, ok2, rfl, hS⟩
      refine iQ 4 (iE 26 [(0, Ia n), (4, Ia z), (5, Ba ok2), (6, .p 6 0), (21, Ba false)] [(6, [Bv g, Hw k, Lw k, Iv x])] ?_)
      refine vc_ret (iS (Iv z) (Bv ok2) [] ?_)
      exact ⟨_, _, rfl, fun _ _ => by rw [hM]; exact hS, fun q => by rw [hM] at q; rcases q with q | q; exact absurd hb1 q; exact absurd (hok.symm.trans q) (by simp)⟩
    · replace hc20 := bt hc20
      have hb1 : ¬ mayN n := fun k => by rw [hb.2 k] at hc20; cases hc20
      refine iT (vc_seqr rfl (iQ 2 (iE 26 [(0, Ia n), (4, Ia 0), (5, Ba false), (6, .p 6 0), (21, Ba true)] [(6, [Bv g, Hw k, Lw k, Iv x])] ?_)))
      refine vc_ret (seq_r (iS (Iv 0) (Bv false) [] ?_))
      exact ⟨_, _, rfl, fun q => absurd q hb1, fun _ => ⟨rfl, rfl⟩⟩
  · replace hc16 := bt hc16
    refine iQ 4 (iE 26 [(0, Ia n), (4, Ia 0), (5, Ba false), (6, .p 6 0), (21, Ba true)] [(6, [Bv g, Hw k, Lw k, Iv x])] ?_)
    have hok : ok = false := hc16
    refine iT (vc_seqr rfl (iQ 2 (iE 26 [(0, Ia n), (4, Ia 0), (5, Ba false), (6, .p 6 0), (21, Ba true)] [(6, [Bv g, Hw k, Lw k, Iv x])] ?_)))
    refine vc_ret (seq_r (iS (Iv 0) (Bv false) [] ?_))
    exact ⟨_, _, rfl, (fun _ q => by rw [hM] at q; exact absurd (hok.symm.trans q) (by simp)), fun _ => ⟨rfl, rfl⟩⟩

theorem c_Over {n : Int} {s : Bool} {A : Nat} {e : Int} (hn0 : -9223372036854775808 ≤ n) (hn1 : n ≤ 9223372036854775807) (hA : A < E34) (h1 : -6176 ≤ e) (h2 : e ≤ 6111) : HasC Try.prog 37 [.v (.int .i64 n), .agg [.v (.bool s), .v (.int .u64 (hiW (A))), .v (.int .u64 (loW (A))), .v (.int .i64 e)]] (fun r => ∃ z ok, r = .tup [.v (.int .i64 z), .v (.bool ok)] ∧ TimesIs n (qDivT (decide (n < 0) != s) n.natAbs A (0 - e)) z ok) := by
  refine HasC.of [] (fn := Try.f37) tyOk mixed (fun args w => Try.call37 args w) Try.func37 rfl (by kernel_rfl) (Nat.le_of_ble_eq_true rfl) (let ⟨z, ok, h⟩ := TimesIs.ex n (qDivT (decide (n < 0) != s) n.natAbs A (0 - e)); ⟨_, z, ok, rfl, h⟩) ?_
  refine vc_seqr rfl (iQ 3 (iE 26 [(0, Ia n), (3, .p 3 0), (4, Ia 0), (5, Ba false)] [(3, [Bv s, Hw A, Lw A, Iv e])] ?_))
  refine vc_seqr rfl (iQ 1 (iC 26 [Iv n] (some 10) (c_Int hn0 hn1) ?_))
  rintro _ rfl
  have hnE : n.natAbs < E34 := by unfold E34; omega
  refine iQ 1 (iC 28 [.agg [Bv (decide (n < 0)), Hw n.natAbs, Lw n.natAbs, Iv 0], .agg [Bv s, Hw A, Lw A, Iv e]] (some 12) (dfit_ex (c_qDiv hnE hA (by decide) (by decide) (by omega) (by omega))) ?_)
  rintro _ ⟨g, k, x, ok, rfl, hM⟩
  obtain ⟨m1, m2, m3, m4⟩ := qdiv_range hM
  refine iQ 6 (iE 26 [(0, Ia n), (4, Ia 0), (5, Ba false), (6, .p 6 0), (7, Ba ok)] [(6, [Bv g, Hw k, Lw k, Iv x])] ?_)
  refine vc_seq (vc_seqr rfl (iQ 1 (iU .not (.bool ok) (some 16) ?_)))
  intro c16 hc16
  refine iQ 1 ?_
  cases c16
  · replace hc16 := bf hc16
    refine iQ 1 ?_
    have hok : ok = true := by simpa using hc16
    refine iC 42 [Iv n] (some 19) (c_spanMay) ?_
    rintro _ ⟨b, rfl, hb⟩
    refine iU .not (.bool b) (some 20) ?_
    intro c20 hc20
    refine iQ 1 (iE 26 [(0, Ia n), (4, Ia 0), (5, Ba false), (6, .p 6 0), (21, Ba c20)] [(6, [Bv g, Hw k, Lw k, Iv x])] ?_)
    cases c20
    · replace hc20 := bf hc20
      have hb1 : mayN n := hb.1 (by simpa using hc20)
      refine iF (vc_skip (seq_n (vc_seqr rfl (iQ 1 (iC 83 [.agg [Bv g, Hw k, Lw k, Iv x]] (some 23) (c_spanWhole m1 m4 m2 m3) ?_)))))
      rintro _ ⟨z, ok2, rfl, hS⟩
      refine iQ 4 (iE 26 [(0, Ia n), (4, Ia z), (5, Ba ok2), (6, .p 6 0), (21, Ba false)] [(6, [Bv g, Hw k, Lw k, Iv x])] ?_)
      refine vc_ret (iS (Iv z) (Bv ok2) [] ?_)
      exact ⟨_, _, rfl, fun _ _ => by rw [hM]; exact hS, fun q => by rw [hM] at q; rcases q with q | q; exact absurd hb1 q; exact absurd (hok.symm.trans q) (by simp)⟩
    · replace hc20 := bt hc20
      have hb1 : ¬ mayN n := fun k => by rw [hb.2 k] at hc20; cases hc20
      refine iT (vc_seqr rfl (iQ 2 (iE 26 [(0, Ia n), (4, Ia 0), (5, Ba false), (6, .p 6 0), (21, Ba true)] [(6, [Bv g, Hw k, Lw k, Iv x])] ?_)))
      refine vc_ret (seq_r (iS (Iv 0) (Bv false) [] ?_))
      exact ⟨_, _, rfl, fun q => absurd q hb1, fun _ => ⟨rfl, rfl⟩⟩
  · replace hc16 := bt hc16
    refine iQ 4 (iE 26 [(0, Ia n), (4, Ia 0), (5, Ba false), (6, .p 6 0), (21, Ba true)] [(6, [Bv g, Hw k, Lw k, Iv x])] ?_)
    have hok : ok = false := hc16
    refine iT (vc_seqr rfl (iQ 2 (iE 26 [(0, Ia n), (4, Ia 0), (5, Ba false), (6, .p 6 0), (21, Ba true)] [(6, [Bv g, Hw k, Lw k, Iv x])] ?_)))
    refine vc_ret (seq_r (iS (Iv 0) (Bv false) [] ?_))
    exact ⟨_, _, rfl, (fun _ q => by rw [hM] at q; exact absurd (hok.symm.trans q) (by simp)), fun _ => ⟨rfl, rfl⟩⟩

/-- What Ratio answers. -/
noncomputable def ratT (a b : Int) : T4 := if mayN a ∧ mayN b then qDivT (decide (a < 0) != decide (b < 0)) a.natAbs b.natAbs (0 - 0) else (false, 0, 0, false)
theorem c_Ratio {a b : Int} (ha0 : -9223372036854775808 ≤ a) (ha1 : a ≤ 9223372036854775807) (hb0 : -9223372036854775808 ≤ b) (hb1 : b ≤ 9223372036854775807) : HasC Try.prog 40 [.v (.int .i64 a), .v (.int .i64 b)] (fun r => r = dFit (ratT a b)) := by
  refine HasC.of [] (fn := Try.f40) tyOk mixed (fun args w => Try.call40 args w) Try.func40 rfl (by kernel_rfl) (Nat.le_of_ble_eq_true rfl) (⟨_, rfl⟩) ?_
  have haE : a.natAbs < E34 := by unfold E34; omega
  have hbE : b.natAbs < E34 := by unfold E34; omega
  refine vc_seqr rfl (iQ 2 (iE 22 [(0, Ia a), (1, Ia b), (4, .p 4 0), (5, Ba false)] [(4, [Bv false, Uv 0, Uv 0, Iv 0])] ?_))
  refine vc_seq (vc_seqr rfl (iQ 1 (iC 42 [Iv a] (some 7) (c_spanMay) ?_)))
  rintro _ ⟨p, rfl, hp⟩
  refine iU .not (.bool p) (some 8) ?_
  intro c8 hc8
  refine iQ 1 ?_
  cases c8
  · replace hc8 := bf hc8
    refine iQ 1 ?_
    have hp1 : mayN a := hp.1 (by simpa using hc8)
    refine iC 42 [Iv b] (some 11) (c_spanMay) ?_
    rintro _ ⟨q, rfl, hq⟩
    refine iU .not (.bool q) (some 12) ?_
    intro c12 hc12
    refine iQ 1 (iE 22 [(0, Ia a), (1, Ia b), (4, .p 4 0), (5, Ba false), (13, Ba c12)] [(4, [Bv false, Uv 0, Uv 0, Iv 0])] ?_)
    cases c12
    · replace hc12 := bf hc12
      have hq1 : mayN b := hq.1 (by simpa using hc12)
      refine iF (vc_skip (seq_n (vc_seqr rfl (iQ 1 (iC 26 [Iv a] (some 16) (c_Int ha0 ha1) ?_)))))
      rintro _ rfl
      refine iQ 1 (iC 26 [Iv b] (some 18) (c_Int hb0 hb1) ?_)
      rintro _ rfl
      refine iC 28 [.agg [Bv (decide (a < 0)), Hw a.natAbs, Lw a.natAbs, Iv 0], .agg [Bv (decide (b < 0)), Hw b.natAbs, Lw b.natAbs, Iv 0]] (some 19) (dfit_ex (c_qDiv haE hbE (by decide) (by decide) (by decide) (by decide))) ?_
      rintro _ ⟨g, k, x, ok, rfl, hM⟩
      refine iQ 4 (iE 22 [(0, Ia a), (1, Ia b), (4, .p 4 0), (5, Ba ok), (13, Ba false)] [(4, [Bv g, Hw k, Lw k, Iv x])] ?_)
      refine vc_ret (iS (.agg [Bv g, Hw k, Lw k, Iv x]) (Bv ok) [] ?_)
      rw [ratT, if_pos ⟨hp1, hq1⟩, hM]; rfl
    · replace hc12 := bt hc12
      have hq1 : ¬ mayN b := fun k => by rw [hq.2 k] at hc12; cases hc12
      refine iT (vc_seqr rfl (iQ 3 (iE 22 [(0, Ia a), (1, Ia b), (4, .p 4 0), (5, Ba false), (13, Ba true)] [(4, [Bv false, Uv 0, Uv 0, Iv 0])] ?_)))
      refine vc_ret (seq_r (iS (.agg [Bv false, Uv 0, Uv 0, Iv 0]) (Bv false) [] ?_))
      rw [ratT, if_neg (fun k => hq1 k.2)]; rfl
  · replace hc8 := bt hc8
    refine iQ 4 (iE 22 [(0, Ia a), (1, Ia b), (4, .p 4 0), (5, Ba false), (13, Ba true)] [(4, [Bv false, Uv 0, Uv 0, Iv 0])] ?_)
    have hp1 : ¬ mayN a := fun k => by rw [hp.2 k] at hc8; cases hc8
    refine iT (vc_seqr rfl (iQ 3 (iE 22 [(0, Ia a), (1, Ia b), (4, .p 4 0), (5, Ba false), (13, Ba true)] [(4, [Bv false, Uv 0, Uv 0, Iv 0])] ?_)))
    refine vc_ret (seq_r (iS (.agg [Bv false, Uv 0, Uv 0, Iv 0]) (Bv false) [] ?_))
    rw [ratT, if_neg (fun k => hp1 k.1)]; rfl

structure PartsIs (a d h m s : Int) : Prop where
  sum : 86400 * d + 3600 * h + 60 * m + s = a
  pos : 0 ≤ a → 0 ≤ d ∧ 0 ≤ h ∧ 0 ≤ m ∧ 0 ≤ s
  neg : a ≤ 0 → d ≤ 0 ∧ h ≤ 0 ∧ m ≤ 0 ∧ s ≤ 0
  rng : -24 < h ∧ h < 24 ∧ -60 < m ∧ m < 60 ∧ -60 < s ∧ s < 60
theorem parts_is (a : Int) : PartsIs a (a.tdiv 86400) ((a.tmod 86400).tdiv 3600) ((a.tmod 3600).tdiv 60) (a.tmod 60) := by
  obtain ⟨a1, a2, a3, a4, a5⟩ := td_spec a (show (0 : Int) < 86400 by decide)
  obtain ⟨b1, b2, b3, b4, b5⟩ := td_spec a (show (0 : Int) < 3600 by decide)
  obtain ⟨c1, c2, c3, c4, c5⟩ := td_spec a (show (0 : Int) < 60 by decide)
  obtain ⟨d1, d2, d3, d4, d5⟩ := td_spec (a.tmod 86400) (show (0 : Int) < 3600 by decide)
  obtain ⟨e1, e2, e3, e4, e5⟩ := td_spec (a.tmod 3600) (show (0 : Int) < 60 by decide)
  generalize a.tdiv 86400 = q1 at *
  generalize a.tmod 86400 = r1 at *
  generalize a.tdiv 3600 = q2 at *
  generalize a.tmod 3600 = r2 at *
  generalize a.tdiv 60 = q3 at *
  generalize a.tmod 60 = r3 at *
  generalize r1.tdiv 3600 = h at *
  generalize r1.tmod 3600 = rr at *
  generalize r2.tdiv 60 = m at *
  generalize r2.tmod 60 = ss at *
  constructor <;> omega

theorem c_Parts {a : Int} (h0 : -9223372036854775808 ≤ a) (h1 : a ≤ 9223372036854775807) : HasC Try.prog 43 [.v (.int .i64 a)] (fun r => ∃ d h m s, r = .tup [.v (.int .i64 d), .v (.int .i64 h), .v (.int .i64 m), .v (.int .i64 s)] ∧ PartsIs a d h m s) := by
  refine HasC.of [] (fn := Try.f43) tyOk mixed (fun args w => Try.call43 args w) Try.func43 rfl (by kernel_rfl) (Nat.le_of_ble_eq_true rfl) (⟨_, _, _, _, _, rfl, parts_is a⟩) ?_
  have t1 := td_spec a (show (0 : Int) < 86400 by decide)
  have t2 := td_spec a (show (0 : Int) < 3600 by decide)
  refine vc_seqr rfl (iQ 4 (iE 16 [(0, Ia a), (2, Ia 0), (3, Ia 0), (4, Ia 0), (5, Ia 0)] [] ?_))
  refine vc_seqr rfl (iQ 1 (iB .quo 3 (.int .i64 a) (.int .i64 86400) (some 7) ?_))
  refine And.intro (by omega) ?_
  intro z7 hz7
  have h7 := quo_is2 hz7 (by decide) (by omega) (by omega)
  refine iQ 1 (iB .rem 3 (.int .i64 a) (.int .i64 86400) (some 9) ?_)
  refine And.intro (by omega) ?_
  intro z9 hz9
  refine iB .quo 3 (.int .i64 z9) (.int .i64 3600) (some 10) ?_
  refine And.intro (by omega) ?_
  intro z10 hz10
  have h10 := quo_is hz10 (by decide) (by omega) (by omega)
  refine iQ 1 (iB .rem 3 (.int .i64 a) (.int .i64 3600) (some 12) ?_)
  refine And.intro (by omega) ?_
  intro z12 hz12
  refine iB .quo 3 (.int .i64 z12) (.int .i64 60) (some 13) ?_
  refine And.intro (by omega) ?_
  intro z13 hz13
  have h13 := quo_is hz13 (by decide) (by omega) (by omega)
  refine iQ 1 (iB .rem 3 (.int .i64 a) (.int .i64 60) (some 15) ?_)
  refine And.intro (by omega) ?_
  intro z15 hz15
  refine iQ 4 (iE 16 [(2, Ia z7), (3, Ia z10), (4, Ia z13), (5, Ia z15)] [] ?_)
  refine vc_ret (iS (Iv z7) (Iv z10) [Iv z13, Iv z15] ?_)
  exact ⟨_, _, _, _, rfl, by rw [h7, h10, h13, hz9, hz12, hz15]; exact parts_is a⟩

end Go.Proofs.Ytfjcblmmfkgkoaa
