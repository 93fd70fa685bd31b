/-
  The law of durations between days: it says yes.
-/
import Derived.Test.YtfjcblmmfkgkoaaSpnB
namespace Go.Proofs.Ytfjcblmmfkgkoaa
open Go.RowKit
set_option linter.unusedVariables false
set_option linter.unusedSimpArgs false
set_option maxRecDepth 100000


theorem of_late {y m d k : Int} (hmay : mayD y m d) (h0 : -2147483648 ≤ k) (h1 : k ≤ 2147483647) : dlT y m d (86400 * k) = ofT (numI y m d + k) := by
  have hr := numI_rng hmay
  unfold dlT lateT
  rw [if_neg (by omega)]
  unfold momT
  rw [if_neg (by omega), show (86400 * numI y m d + 0 + 86400 * k) / 86400 = numI y m d + k by omega]
  obtain ⟨t, ht⟩ : ∃ t, ofT (numI y m d + k) = t := ⟨_, rfl⟩
  obtain ⟨a, b, c, ok⟩ := t
  rw [ht]
  cases ok with
  | true => rw [if_pos rfl]
  | false =>
    rw [if_neg (by simp)]
    obtain ⟨e1, e2, e3⟩ := of_none ht
    rw [e1, e2, e3]
theorem late_none {y m d n y' m' d' s : Int} (h : lateT y m d 0 n = ((y', m', d', false), s)) : y' = 0 ∧ m' = 0 ∧ d' = 0 := by
  unfold lateT at h
  have inj : ∀ {t t' : D4} {a b : Int}, (t, a) = (t', b) → t = t' := fun h => (Prod.mk.inj h).1
  split at h
  · obtain ⟨h1, h2, h3, _⟩ := D4.inj (inj h); exact ⟨h1.symm, h2.symm, h3.symm⟩
  · unfold momT at h
    split at h
    · obtain ⟨h1, h2, h3, _⟩ := D4.inj (inj h); exact ⟨h1.symm, h2.symm, h3.symm⟩
    · split at h
      · rename_i h4
        rw [inj h] at h4
        cases h4
      · obtain ⟨h1, h2, h3, _⟩ := D4.inj (inj h); exact ⟨h1.symm, h2.symm, h3.symm⟩
theorem mom_as {P : Program} {f : FuncId} {ds : List DV} {t : D4 × Int} {y m d s : Int} {ok : Bool} (h : HasC P f ds (fun y => y = dMom t)) (ht : t = ((y, m, d, ok), s)) : HasC P f ds (fun r => r = .tup [.agg [.v (.int .i64 y), .v (.int .i64 m), .v (.int .i64 d), .v (.int .i64 s), .v (.bool false), .v (.int .i64 0)], .v (.bool ok)]) := by
  subst ht
  exact h

set_option maxHeartbeats 3200000 in
theorem c_SpanDates {y m d n v k : Int} (hn0 : -9223372036854775808 ≤ n) (hn1 : n ≤ 9223372036854775807) (hk0 : -2147483648 ≤ k) (hk1 : k ≤ 2147483647) : HasC Try.prog 12 [.v (.int .i64 y), .v (.int .i64 m), .v (.int .i64 d), .v (.int .i64 n), .v (.int .i64 v), .v (.int .i32 k)] (fun y => y = .v (.bool true)) := by
  refine HasC.of [] (fn := Try.f12) tyOk mixed (fun args w => Try.call12 args w) Try.func12 rfl (by kernel_rfl) (Nat.le_of_ble_eq_true rfl) (⟨_, rfl⟩) ?_
  refine vc_seqr rfl (iQ 1 (iE 124 [(0, Ia y), (1, Ia m), (2, Ia d), (3, Ia n), (4, Ia v), (5, .d (.v (.int .i32 k))), (12, Ba false)] [] ?_))
  refine vc_seq (vc_seqr rfl (iC 35 [] (some 29) (c_awake10) ?_))
  rintro _ rfl
  refine iU .not (.bool true) (some 30) ?_
  refine all_false ((by simp)) ?_
  refine iE 124 [(0, Ia y), (1, Ia m), (2, Ia d), (3, Ia n), (4, Ia v), (5, .d (.v (.int .i32 k))), (12, Ba false), (30, Ba false)] [] ?_
  refine iF (vc_skip (seq_n (vc_seqr rfl (iQ 3 (iC 44 [Iv y, Iv m, Iv d] (some 34) (c_mkDate) ?_)))))
  rintro _ ⟨ya, ma, da, rfl, hA⟩
  refine iQ 3 (iC 44 [Iv v, Iv d, Iv m] (some 38) (c_mkDate) ?_)
  rintro _ ⟨yb, mb, db, rfl, hB⟩
  have rA := numI_rng hA; have rB := numI_rng hB
  obtain ⟨t, ht⟩ : ∃ t, lateT ya ma da 0 n = t := ⟨_, rfl⟩
  obtain ⟨⟨yl, ml, dl, okl⟩, sl⟩ := t
  refine iQ 4 (iE 124 [(3, Ia n), (5, .d (.v (.int .i32 k))), (12, Ba false), (13, .p 13 0), (14, .p 14 0), (30, Ba false)] [(13, [Iv ya, Iv ma, Iv da]), (14, [Iv yb, Iv mb, Iv db])] ?_)
  refine vc_seqr rfl (iQ 2 (iC 45 [.agg [Iv ya, Iv ma, Iv da], Iv n] (some 42) (d4_as (y := yl) (m := ml) (d := dl) (ok := okl) (c_DateLater hA hn0 hn1) (by rw [dlT, ht])) ?_))
  rintro _ rfl
  refine iQ 6 (iE 124 [(3, Ia n), (5, .d (.v (.int .i32 k))), (12, Ba false), (13, .p 13 0), (14, .p 14 0), (15, .p 15 0), (16, Ba okl), (30, Ba false)] [(13, [Iv ya, Iv ma, Iv da]), (14, [Iv yb, Iv mb, Iv db]), (15, [Iv yl, Iv ml, Iv dl])] ?_)
  refine vc_seqr rfl (iQ 3 (iC 46 [.agg [Iv ya, Iv ma, Iv da, Iv 0, Bv false, Iv 0], Iv n] (some 49) (mom_as (c_momLater (s := 0) hA (by decide) (by decide) hn0 hn1) ht) ?_))
  rintro _ rfl
  refine iQ 6 (iE 124 [(3, Ia n), (5, .d (.v (.int .i32 k))), (12, Ba false), (13, .p 13 0), (14, .p 14 0), (15, .p 15 0), (16, Ba okl), (17, .p 17 0), (18, Ba okl), (30, Ba false)] [(13, [Iv ya, Iv ma, Iv da]), (14, [Iv yb, Iv mb, Iv db]), (15, [Iv yl, Iv ml, Iv dl]), (17, [Iv yl, Iv ml, Iv dl, Iv sl, Bv false, Iv 0])] ?_)
  refine vc_seq (vc_seqr rfl (iQ 2 (iB .neq 4 (.bool okl) (.bool okl) (some 54) ?_)))
  refine all_false ((by simp)) ?_
  refine iQ 3 ?_
  cases okl
  · skip
    refine iQ 8 (iU .not (.bool false) (some 66) ?_)
    refine all_true (rfl) ?_
    obtain ⟨e1, e2, e3⟩ := late_none ht
    refine iQ 3 (iB .neq 68 (.agg #[.int .i64 yl, .int .i64 ml, .int .i64 dl]) (.agg #[.int .i64 0, .int .i64 0, .int .i64 0]) (some 70) ?_)
    refine all_false ((by rw [e1, e2, e3]; simp)) ?_
    refine iQ 2 (iE 124 [(3, Ia n), (5, .d (.v (.int .i32 k))), (12, Ba false), (13, .p 13 0), (14, .p 14 0), (15, .p 15 0), (17, .p 17 0), (30, Ba false), (72, Ba false)] [(13, [Iv ya, Iv ma, Iv da]), (14, [Iv yb, Iv mb, Iv db]), (15, [Iv yl, Iv ml, Iv dl]), (17, [Iv yl, Iv ml, Iv dl, Iv sl, Bv false, Iv 0])] ?_)
    refine iF (vc_skip (seq_n (vc_seqr rfl (iQ 1 (iC 47 [.agg [Iv ya, Iv ma, Iv da]] (some 75) (c_Number hA) ?_)))))
    rintro _ rfl
    refine iQ 5 (iE 124 [(3, Ia n), (5, .d (.v (.int .i32 k))), (12, Ba false), (13, .p 13 0), (14, .p 14 0), (15, .p 15 0), (17, .p 17 0), (19, Ia (numI ya ma da)), (30, Ba false), (72, Ba false)] [(13, [Iv ya, Iv ma, Iv da]), (14, [Iv yb, Iv mb, Iv db]), (15, [Iv yl, Iv ml, Iv dl]), (17, [Iv yl, Iv ml, Iv dl, Iv sl, Bv false, Iv 0])] ?_)
    refine vc_seqr rfl (iQ 1 (iC 47 [.agg [Iv yb, Iv mb, Iv db]] (some 80) (c_Number hB) ?_))
    rintro _ rfl
    refine iQ 5 (iE 124 [(3, Ia n), (5, .d (.v (.int .i32 k))), (12, Ba false), (13, .p 13 0), (14, .p 14 0), (15, .p 15 0), (17, .p 17 0), (19, Ia (numI ya ma da)), (21, Ia (numI yb mb db)), (30, Ba false), (72, Ba false)] [(13, [Iv ya, Iv ma, Iv da]), (14, [Iv yb, Iv mb, Iv db]), (15, [Iv yl, Iv ml, Iv dl]), (17, [Iv yl, Iv ml, Iv dl, Iv sl, Bv false, Iv 0])] ?_)
    refine vc_seqr rfl (iQ 2 (iC 48 [.agg [Iv ya, Iv ma, Iv da], .agg [Iv yb, Iv mb, Iv db]] (some 86) (c_DatesBetween hA hB) ?_))
    rintro _ rfl
    obtain ⟨t, hw⟩ : ∃ t, ofT (numI ya ma da + k) = t := ⟨_, rfl⟩
    obtain ⟨yw, mw, dw, okw⟩ := t
    refine iQ 5 (iE 124 [(3, Ia n), (5, .d (.v (.int .i32 k))), (12, Ba false), (13, .p 13 0), (14, .p 14 0), (15, .p 15 0), (17, .p 17 0), (19, Ia (numI ya ma da)), (21, Ia (numI yb mb db)), (23, Ia (86400 * (numI yb mb db - numI ya ma da))), (24, Ba true), (30, Ba false), (72, Ba false)] [(13, [Iv ya, Iv ma, Iv da]), (14, [Iv yb, Iv mb, Iv db]), (15, [Iv yl, Iv ml, Iv dl]), (17, [Iv yl, Iv ml, Iv dl, Iv sl, Bv false, Iv 0])] ?_)
    refine vc_seqr rfl (iQ 2 (iV 21 3 (.int .i32 k) (some 92) ?_))
    intro z92 hz92
    try replace hz92 := hz92.i64 (by omega)
    refine iB .mul 3 (.int .i64 86400) (.int .i64 z92) (some 93) ?_
    intro z93 hz93
    try replace hz93 := hz93.i64 (by omega)
    refine iC 45 [.agg [Iv ya, Iv ma, Iv da], Iv z93] (some 94) (d4_as (y := yw) (m := mw) (d := dw) (ok := okw) (c_DateLater (n := z93) hA (by omega) (by omega)) (by rw [show z93 = 86400 * k by omega, of_late hA hk0 hk1, hw])) ?_
    rintro _ rfl
    refine iQ 6 (iE 124 [(3, Ia n), (5, .d (.v (.int .i32 k))), (12, Ba false), (13, .p 13 0), (14, .p 14 0), (15, .p 15 0), (17, .p 17 0), (19, Ia (numI ya ma da)), (21, Ia (numI yb mb db)), (23, Ia (86400 * (numI yb mb db - numI ya ma da))), (24, Ba true), (25, .p 25 0), (26, Ba okw), (30, Ba false), (72, Ba false)] [(13, [Iv ya, Iv ma, Iv da]), (14, [Iv yb, Iv mb, Iv db]), (15, [Iv yl, Iv ml, Iv dl]), (17, [Iv yl, Iv ml, Iv dl, Iv sl, Bv false, Iv 0]), (25, [Iv yw, Iv mw, Iv dw])] ?_)
    refine vc_seqr rfl (iQ 2 (iV 21 3 (.int .i32 k) (some 100) ?_))
    intro z100 hz100
    try replace hz100 := hz100.i64 (by omega)
    refine iB .add 3 (.int .i64 (numI ya ma da)) (.int .i64 z100) (some 101) ?_
    intro z101 hz101
    try replace hz101 := hz101.i64 (by omega)
    refine iC 49 [Iv z101] (some 102) (d4_as (y := yw) (m := mw) (d := dw) (ok := okw) (c_civOf (n := z101) (by omega) (by omega)) (by rw [show z101 = numI ya ma da + k by omega, hw])) ?_
    rintro _ rfl
    refine iQ 6 (iE 124 [(3, Ia n), (5, .d (.v (.int .i32 k))), (12, Ba false), (13, .p 13 0), (14, .p 14 0), (15, .p 15 0), (17, .p 17 0), (19, Ia (numI ya ma da)), (21, Ia (numI yb mb db)), (23, Ia (86400 * (numI yb mb db - numI ya ma da))), (24, Ba true), (25, .p 25 0), (26, Ba okw), (27, .p 27 0), (28, Ba okw), (30, Ba false), (72, Ba false)] [(13, [Iv ya, Iv ma, Iv da]), (14, [Iv yb, Iv mb, Iv db]), (15, [Iv yl, Iv ml, Iv dl]), (17, [Iv yl, Iv ml, Iv dl, Iv sl, Bv false, Iv 0]), (25, [Iv yw, Iv mw, Iv dw]), (27, [Iv yw, Iv mw, Iv dw])] ?_)
    refine vc_seqr rfl (iQ 5 (iB .sub 3 (.int .i64 (numI yb mb db)) (.int .i64 (numI ya ma da)) (some 110) ?_))
    intro z110 hz110
    try replace hz110 := hz110.i64 (by omega)
    refine iB .mul 3 (.int .i64 86400) (.int .i64 z110) (some 111) ?_
    intro z111 hz111
    try replace hz111 := hz111.i64 (by omega)
    refine iB .eql 3 (.int .i64 (86400 * (numI yb mb db - numI ya ma da))) (.int .i64 z111) (some 112) ?_
    refine all_true ((by omega)) ?_
    refine iQ 4 (iB .eql 4 (.bool okw) (.bool okw) (some 117) ?_)
    refine all_true (rfl) ?_
    refine iQ 4 (iB .eql 68 (.agg #[.int .i64 yw, .int .i64 mw, .int .i64 dw]) (.agg #[.int .i64 yw, .int .i64 mw, .int .i64 dw]) (some 122) ?_)
    intro c122 hc122
    try simp only [Array.mk.injEq, List.cons.injEq, Value.int.injEq, Value.bool.injEq, Value.string.injEq, true_and, and_true] at hc122
    refine iQ 2 (iE 124 [(3, Ia n), (5, .d (.v (.int .i32 k))), (12, Ba c122), (13, .p 13 0), (14, .p 14 0), (15, .p 15 0), (17, .p 17 0), (19, Ia (numI ya ma da)), (25, .p 25 0), (27, .p 27 0), (30, Ba false), (72, Ba false)] [(13, [Iv ya, Iv ma, Iv da]), (14, [Iv yb, Iv mb, Iv db]), (15, [Iv yl, Iv ml, Iv dl]), (17, [Iv yl, Iv ml, Iv dl, Iv sl, Bv false, Iv 0]), (25, [Iv yw, Iv mw, Iv dw]), (27, [Iv yw, Iv mw, Iv dw])] ?_)
    refine vc_ret (iR (Bv c122) ?_)
    rw [hc122.2 trivial]
  · skip
    refine iQ 3 (iB .neq 68 (.agg #[.int .i64 yl, .int .i64 ml, .int .i64 dl]) (.agg #[.int .i64 yl, .int .i64 ml, .int .i64 dl]) (some 61) ?_)
    refine all_false ((by simp)) ?_
    refine iQ 4 (iU .not (.bool true) (some 66) ?_)
    refine all_false ((by simp)) ?_
    refine iQ 6 (iE 124 [(3, Ia n), (5, .d (.v (.int .i32 k))), (12, Ba false), (13, .p 13 0), (14, .p 14 0), (15, .p 15 0), (17, .p 17 0), (30, Ba false), (72, Ba false)] [(13, [Iv ya, Iv ma, Iv da]), (14, [Iv yb, Iv mb, Iv db]), (15, [Iv yl, Iv ml, Iv dl]), (17, [Iv yl, Iv ml, Iv dl, Iv sl, Bv false, Iv 0])] ?_)
    refine iF (vc_skip (seq_n (vc_seqr rfl (iQ 1 (iC 47 [.agg [Iv ya, Iv ma, Iv da]] (some 75) (c_Number hA) ?_)))))
    rintro _ rfl
    refine iQ 5 (iE 124 [(3, Ia n), (5, .d (.v (.int .i32 k))), (12, Ba false), (13, .p 13 0), (14, .p 14 0), (15, .p 15 0), (17, .p 17 0), (19, Ia (numI ya ma da)), (30, Ba false), (72, Ba false)] [(13, [Iv ya, Iv ma, Iv da]), (14, [Iv yb, Iv mb, Iv db]), (15, [Iv yl, Iv ml, Iv dl]), (17, [Iv yl, Iv ml, Iv dl, Iv sl, Bv false, Iv 0])] ?_)
    refine vc_seqr rfl (iQ 1 (iC 47 [.agg [Iv yb, Iv mb, Iv db]] (some 80) (c_Number hB) ?_))
    rintro _ rfl
    refine iQ 5 (iE 124 [(3, Ia n), (5, .d (.v (.int .i32 k))), (12, Ba false), (13, .p 13 0), (14, .p 14 0), (15, .p 15 0), (17, .p 17 0), (19, Ia (numI ya ma da)), (21, Ia (numI yb mb db)), (30, Ba false), (72, Ba false)] [(13, [Iv ya, Iv ma, Iv da]), (14, [Iv yb, Iv mb, Iv db]), (15, [Iv yl, Iv ml, Iv dl]), (17, [Iv yl, Iv ml, Iv dl, Iv sl, Bv false, Iv 0])] ?_)
    refine vc_seqr rfl (iQ 2 (iC 48 [.agg [Iv ya, Iv ma, Iv da], .agg [Iv yb, Iv mb, Iv db]] (some 86) (c_DatesBetween hA hB) ?_))
    rintro _ rfl
    obtain ⟨t, hw⟩ : ∃ t, ofT (numI ya ma da + k) = t := ⟨_, rfl⟩
    obtain ⟨yw, mw, dw, okw⟩ := t
    refine iQ 5 (iE 124 [(3, Ia n), (5, .d (.v (.int .i32 k))), (12, Ba false), (13, .p 13 0), (14, .p 14 0), (15, .p 15 0), (17, .p 17 0), (19, Ia (numI ya ma da)), (21, Ia (numI yb mb db)), (23, Ia (86400 * (numI yb mb db - numI ya ma da))), (24, Ba true), (30, Ba false), (72, Ba false)] [(13, [Iv ya, Iv ma, Iv da]), (14, [Iv yb, Iv mb, Iv db]), (15, [Iv yl, Iv ml, Iv dl]), (17, [Iv yl, Iv ml, Iv dl, Iv sl, Bv false, Iv 0])] ?_)
    refine vc_seqr rfl (iQ 2 (iV 21 3 (.int .i32 k) (some 92) ?_))
    intro z92 hz92
    try replace hz92 := hz92.i64 (by omega)
    refine iB .mul 3 (.int .i64 86400) (.int .i64 z92) (some 93) ?_
    intro z93 hz93
    try replace hz93 := hz93.i64 (by omega)
    refine iC 45 [.agg [Iv ya, Iv ma, Iv da], Iv z93] (some 94) (d4_as (y := yw) (m := mw) (d := dw) (ok := okw) (c_DateLater (n := z93) hA (by omega) (by omega)) (by rw [show z93 = 86400 * k by omega, of_late hA hk0 hk1, hw])) ?_
    rintro _ rfl
    refine iQ 6 (iE 124 [(3, Ia n), (5, .d (.v (.int .i32 k))), (12, Ba false), (13, .p 13 0), (14, .p 14 0), (15, .p 15 0), (17, .p 17 0), (19, Ia (numI ya ma da)), (21, Ia (numI yb mb db)), (23, Ia (86400 * (numI yb mb db - numI ya ma da))), (24, Ba true), (25, .p 25 0), (26, Ba okw), (30, Ba false), (72, Ba false)] [(13, [Iv ya, Iv ma, Iv da]), (14, [Iv yb, Iv mb, Iv db]), (15, [Iv yl, Iv ml, Iv dl]), (17, [Iv yl, Iv ml, Iv dl, Iv sl, Bv false, Iv 0]), (25, [Iv yw, Iv mw, Iv dw])] ?_)
    refine vc_seqr rfl (iQ 2 (iV 21 3 (.int .i32 k) (some 100) ?_))
    intro z100 hz100
    try replace hz100 := hz100.i64 (by omega)
    refine iB .add 3 (.int .i64 (numI ya ma da)) (.int .i64 z100) (some 101) ?_
    intro z101 hz101
    try replace hz101 := hz101.i64 (by omega)
    refine iC 49 [Iv z101] (some 102) (d4_as (y := yw) (m := mw) (d := dw) (ok := okw) (c_civOf (n := z101) (by omega) (by omega)) (by rw [show z101 = numI ya ma da + k by omega, hw])) ?_
    rintro _ rfl
    refine iQ 6 (iE 124 [(3, Ia n), (5, .d (.v (.int .i32 k))), (12, Ba false), (13, .p 13 0), (14, .p 14 0), (15, .p 15 0), (17, .p 17 0), (19, Ia (numI ya ma da)), (21, Ia (numI yb mb db)), (23, Ia (86400 * (numI yb mb db - numI ya ma da))), (24, Ba true), (25, .p 25 0), (26, Ba okw), (27, .p 27 0), (28, Ba okw), (30, Ba false), (72, Ba false)] [(13, [Iv ya, Iv ma, Iv da]), (14, [Iv yb, Iv mb, Iv db]), (15, [Iv yl, Iv ml, Iv dl]), (17, [Iv yl, Iv ml, Iv dl, Iv sl, Bv false, Iv 0]), (25, [Iv yw, Iv mw, Iv dw]), (27, [Iv yw, Iv mw, Iv dw])] ?_)
    refine vc_seqr rfl (iQ 5 (iB .sub 3 (.int .i64 (numI yb mb db)) (.int .i64 (numI ya ma da)) (some 110) ?_))
    intro z110 hz110
    try replace hz110 := hz110.i64 (by omega)
    refine iB .mul 3 (.int .i64 86400) (.int .i64 z110) (some 111) ?_
    intro z111 hz111
    try replace hz111 := hz111.i64 (by omega)
    refine iB .eql 3 (.int .i64 (86400 * (numI yb mb db - numI ya ma da))) (.int .i64 z111) (some 112) ?_
    refine all_true ((by omega)) ?_
    refine iQ 4 (iB .eql 4 (.bool okw) (.bool okw) (some 117) ?_)
    refine all_true (rfl) ?_
    refine iQ 4 (iB .eql 68 (.agg #[.int .i64 yw, .int .i64 mw, .int .i64 dw]) (.agg #[.int .i64 yw, .int .i64 mw, .int .i64 dw]) (some 122) ?_)
    intro c122 hc122
    try simp only [Array.mk.injEq, List.cons.injEq, Value.int.injEq, Value.bool.injEq, Value.string.injEq, true_and, and_true] at hc122
    refine iQ 2 (iE 124 [(3, Ia n), (5, .d (.v (.int .i32 k))), (12, Ba c122), (13, .p 13 0), (14, .p 14 0), (15, .p 15 0), (17, .p 17 0), (19, Ia (numI ya ma da)), (25, .p 25 0), (27, .p 27 0), (30, Ba false), (72, Ba false)] [(13, [Iv ya, Iv ma, Iv da]), (14, [Iv yb, Iv mb, Iv db]), (15, [Iv yl, Iv ml, Iv dl]), (17, [Iv yl, Iv ml, Iv dl, Iv sl, Bv false, Iv 0]), (25, [Iv yw, Iv mw, Iv dw]), (27, [Iv yw, Iv mw, Iv dw])] ?_)
    refine vc_ret (iR (Bv c122) ?_)
    rw [hc122.2 trivial]

end Go.Proofs.Ytfjcblmmfkgkoaa
