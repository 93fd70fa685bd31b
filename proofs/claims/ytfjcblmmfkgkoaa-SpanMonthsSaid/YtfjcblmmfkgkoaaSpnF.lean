/-
  Months between days; the law: it says yes.
-/
import Derived.Test.YtfjcblmmfkgkoaaSpnB
import Derived.Test.YtfjcblmmfkgkoaaCivB
namespace Go.Proofs.Ytfjcblmmfkgkoaa
open Go.RowKit
set_option linter.unusedVariables false
set_option linter.unusedSimpArgs false
set_option maxRecDepth 100000


theorem c_instant {y m d : Int} (hmay : mayD y m d) : HasC Try.prog 108 [.agg [.v (.int .i64 y), .v (.int .i64 m), .v (.int .i64 d), .v (.int .i64 0), .v (.bool false), .v (.int .i64 0)]] (fun r => r = .v (.int .i64 (86400 * numI y m d + 0))) := by
  refine HasC.of [] (fn := Try.f108) tyOk mixed (fun args w => Try.call108 args w) Try.func108 rfl (by kernel_rfl) (Nat.le_of_ble_eq_true rfl) (⟨_, rfl⟩) ?_
  refine vc_seqr rfl (iQ 2 (iE 11 [(1, .p 1 0), (2, Ia 0)] [(1, [Iv y, Iv m, Iv d, Iv 0, Bv false, Iv 0])] ?_))
  refine vc_seqr rfl (iQ 1 (iC 86 [.agg [Iv y, Iv m, Iv d, Iv 0, Bv false, Iv 0]] (some 7) (c_Instant hmay (by decide) (by decide)) ?_))
  rintro _ rfl
  refine iQ 5 (iE 11 [(2, Ia 0), (3, Ia (86400 * numI y m d + 0))] [] ?_)
  refine vc_seqr rfl (iQ 2 (iE 11 [(2, Ia (86400 * numI y m d + 0))] [] ?_))
  refine vc_ret (iR (Iv (86400 * numI y m d + 0)) ?_)
  rfl
theorem mom_as2 {P : Program} {f : FuncId} {ds : List DV} {t : D4 × Int} {y m d s : Int} {ok : Bool} (h : HasC P f ds (fun y => y = dMom t)) (ht : t = ((y, m, d, ok), s)) : HasC P f ds (fun r => r = .tup [.agg [.v (.int .i64 y), .v (.int .i64 m), .v (.int .i64 d), .v (.int .i64 s), .v (.bool false), .v (.int .i64 0)], .v (.bool ok)]) := by
  subst ht
  exact h
theorem mom_back {y m d : Int} (h : mayD y m d) : momT (86400 * numI y m d + 0) = ((y, m, d, true), 0) := by
  have hr := numI_rng h
  unfold momT
  rw [if_neg (by omega), show (86400 * numI y m d + 0) / 86400 = numI y m d by omega, of_back h, if_pos rfl, show (86400 * numI y m d + 0) % 86400 = 0 by omega]
/-- How many whole months a later day is behind. -/
def mbN (y m d y' m' d' : Int) : Int := 12 * (y' - y) + m' - m - (if d' < d then 1 else 0)

set_option maxHeartbeats 1600000 in
theorem c_MBup {y m d y' m' d' : Int} (hA : mayD y m d) (hB : mayD y' m' d') (hle : numI y m d ≤ numI y' m' d') : HasC Try.prog 91 [.agg [.v (.int .i64 y), .v (.int .i64 m), .v (.int .i64 d), .v (.int .i64 0), .v (.bool false), .v (.int .i64 0)], .agg [.v (.int .i64 y'), .v (.int .i64 m'), .v (.int .i64 d'), .v (.int .i64 0), .v (.bool false), .v (.int .i64 0)]] (fun r => r = .tup [.v (.int .i64 (mbN y m d y' m' d')), .v (.bool true)]) := by
  refine HasC.of [] (fn := Try.f91) tyOk mixed (fun args w => Try.call91 args w) Try.func91 rfl (by kernel_rfl) (Nat.le_of_ble_eq_true rfl) (⟨_, rfl⟩) ?_
  have rA := mayD_rng hA; have rB := mayD_rng hB
  have nA := numI_rng hA; have nB := numI_rng hB
  refine vc_seqr rfl (iQ 4 (iE 85 [(2, .p 2 0), (3, .p 3 0), (4, Ia 0), (5, Ba false)] [(2, [Iv y, Iv m, Iv d, Iv 0, Bv false, Iv 0]), (3, [Iv y', Iv m', Iv d', Iv 0, Bv false, Iv 0])] ?_))
  refine vc_seqr rfl (iQ 2 (iC 90 [.agg [Iv y, Iv m, Iv d, Iv 0, Bv false, Iv 0], .agg [Iv y', Iv m', Iv d', Iv 0, Bv false, Iv 0]] (some 15) (c_momBetween hA hB) ?_))
  rintro _ rfl
  refine iQ 5 (iE 85 [(2, .p 2 0), (3, .p 3 0), (4, Ia 0), (5, Ba false), (6, Ia (86400 * (numI y' m' d' - numI y m d))), (7, Ba true)] [(2, [Iv y, Iv m, Iv d, Iv 0, Bv false, Iv 0]), (3, [Iv y', Iv m', Iv d', Iv 0, Bv false, Iv 0])] ?_)
  refine vc_seq (vc_seqr rfl (iQ 1 (iU .not (.bool true) (some 19) ?_)))
  refine all_false ((by simp)) ?_
  refine iE 85 [(2, .p 2 0), (3, .p 3 0), (4, Ia 0), (5, Ba false), (6, Ia (86400 * (numI y' m' d' - numI y m d))), (7, Ba true), (19, Ba false)] [(2, [Iv y, Iv m, Iv d, Iv 0, Bv false, Iv 0]), (3, [Iv y', Iv m', Iv d', Iv 0, Bv false, Iv 0])] ?_
  refine iF (vc_skip (seq_n (vc_seq (vc_seqr rfl (iQ 1 (iB .lss 3 (.int .i64 (86400 * (numI y' m' d' - numI y m d))) (.int .i64 0) (some 21) ?_))))))
  refine all_false ((by omega)) ?_
  refine iE 85 [(2, .p 2 0), (3, .p 3 0), (4, Ia 0), (5, Ba false), (7, Ba true), (19, Ba false), (21, Ba false)] [(2, [Iv y, Iv m, Iv d, Iv 0, Bv false, Iv 0]), (3, [Iv y', Iv m', Iv d', Iv 0, Bv false, Iv 0])] ?_
  refine iF (vc_skip (seq_n (vc_seqr rfl (iQ 1 (iC 108 [.agg [Iv y', Iv m', Iv d', Iv 0, Bv false, Iv 0]] (some 33) (c_instant hB) ?_)))))
  rintro _ rfl
  refine iQ 2 (iC 87 [Iv (86400 * numI y' m' d' + 0), .agg [Iv 0, Bv false, Iv 0]] (some 36) (mom_as2 (c_momOf (i := 86400 * numI y' m' d' + 0) (by omega) (by omega) (by decide) (by decide)) (mom_back hB)) ?_)
  rintro _ rfl
  refine iQ 6 (iE 85 [(2, .p 2 0), (3, .p 3 0), (4, Ia 0), (5, Ba false), (7, Ba true), (10, .p 10 0), (19, Ba false), (21, Ba false)] [(2, [Iv y, Iv m, Iv d, Iv 0, Bv false, Iv 0]), (3, [Iv y', Iv m', Iv d', Iv 0, Bv false, Iv 0]), (10, [Iv y', Iv m', Iv d', Iv 0, Bv false, Iv 0])] ?_)
  refine vc_seq (vc_seqr rfl (iQ 1 (iU .not (.bool true) (some 40) ?_)))
  refine all_false ((by simp)) ?_
  refine iE 85 [(2, .p 2 0), (3, .p 3 0), (4, Ia 0), (5, Ba false), (7, Ba true), (10, .p 10 0), (19, Ba false), (21, Ba false), (40, Ba false)] [(2, [Iv y, Iv m, Iv d, Iv 0, Bv false, Iv 0]), (3, [Iv y', Iv m', Iv d', Iv 0, Bv false, Iv 0]), (10, [Iv y', Iv m', Iv d', Iv 0, Bv false, Iv 0])] ?_
  refine iF (vc_skip (seq_n (vc_seqr rfl (iQ 6 (iB .sub 3 (.int .i64 y') (.int .i64 y) (some 47) ?_)))))
  intro z47 hz47
  try replace hz47 := hz47.i64 (by omega)
  refine iB .mul 3 (.int .i64 12) (.int .i64 z47) (some 48) ?_
  intro z48 hz48
  try replace hz48 := hz48.i64 (by omega)
  refine iQ 3 (iB .add 3 (.int .i64 z48) (.int .i64 m') (some 52) ?_)
  intro z52 hz52
  try replace hz52 := hz52.i64 (by omega)
  refine iQ 3 (iB .sub 3 (.int .i64 z52) (.int .i64 m) (some 56) ?_)
  intro z56 hz56
  try replace hz56 := hz56.i64 (by omega)
  refine iQ 1 (iE 85 [(2, .p 2 0), (3, .p 3 0), (4, Ia 0), (5, Ba false), (7, Ba true), (10, .p 10 0), (11, Ia z56), (19, Ba false), (21, Ba false), (40, Ba false)] [(2, [Iv y, Iv m, Iv d, Iv 0, Bv false, Iv 0]), (3, [Iv y', Iv m', Iv d', Iv 0, Bv false, Iv 0]), (10, [Iv y', Iv m', Iv d', Iv 0, Bv false, Iv 0])] ?_)
  refine vc_seq (vc_seqr rfl (iQ 6 (iB .lss 3 (.int .i64 d') (.int .i64 d) (some 63) ?_)))
  intro c63 hc63
  refine iQ 1 ?_
  cases c63
  · replace hc63 := bf hc63
    refine iQ 6 (iB .eql 3 (.int .i64 d') (.int .i64 d) (some 71) ?_)
    intro c71 hc71
    refine iQ 1 ?_
    cases c71
    · replace hc71 := bf hc71
      refine iQ 9 (iE 85 [(2, .p 2 0), (3, .p 3 0), (4, Ia 0), (5, Ba false), (7, Ba true), (10, .p 10 0), (11, Ia z56), (19, Ba false), (21, Ba false), (40, Ba false), (81, Ba false)] [(2, [Iv y, Iv m, Iv d, Iv 0, Bv false, Iv 0]), (3, [Iv y', Iv m', Iv d', Iv 0, Bv false, Iv 0]), (10, [Iv y', Iv m', Iv d', Iv 0, Bv false, Iv 0])] ?_)
      refine iF (vc_skip (seq_n (vc_seqr rfl (iQ 3 (iE 85 [(2, .p 2 0), (3, .p 3 0), (4, Ia z56), (5, Ba true), (7, Ba true), (10, .p 10 0), (11, Ia z56), (19, Ba false), (21, Ba false), (40, Ba false), (81, Ba false)] [(2, [Iv y, Iv m, Iv d, Iv 0, Bv false, Iv 0]), (3, [Iv y', Iv m', Iv d', Iv 0, Bv false, Iv 0]), (10, [Iv y', Iv m', Iv d', Iv 0, Bv false, Iv 0])] ?_)))))
      refine vc_ret (iS (Iv z56) (Bv true) [] ?_)
      rw [show mbN y m d y' m' d' = z56 by unfold mbN; rw [if_neg hc63]; omega]
    · replace hc71 := bt hc71
      refine iQ 6 (iB .lss 3 (.int .i64 0) (.int .i64 0) (some 79) ?_)
      refine all_false ((by decide)) ?_
      refine iQ 2 (iE 85 [(2, .p 2 0), (3, .p 3 0), (4, Ia 0), (5, Ba false), (7, Ba true), (10, .p 10 0), (11, Ia z56), (19, Ba false), (21, Ba false), (40, Ba false), (81, Ba false)] [(2, [Iv y, Iv m, Iv d, Iv 0, Bv false, Iv 0]), (3, [Iv y', Iv m', Iv d', Iv 0, Bv false, Iv 0]), (10, [Iv y', Iv m', Iv d', Iv 0, Bv false, Iv 0])] ?_)
      refine iF (vc_skip (seq_n (vc_seqr rfl (iQ 3 (iE 85 [(2, .p 2 0), (3, .p 3 0), (4, Ia z56), (5, Ba true), (7, Ba true), (10, .p 10 0), (11, Ia z56), (19, Ba false), (21, Ba false), (40, Ba false), (81, Ba false)] [(2, [Iv y, Iv m, Iv d, Iv 0, Bv false, Iv 0]), (3, [Iv y', Iv m', Iv d', Iv 0, Bv false, Iv 0]), (10, [Iv y', Iv m', Iv d', Iv 0, Bv false, Iv 0])] ?_)))))
      refine vc_ret (iS (Iv z56) (Bv true) [] ?_)
      rw [show mbN y m d y' m' d' = z56 by unfold mbN; rw [if_neg hc63]; omega]
  · replace hc63 := bt hc63
    refine iQ 17 (iE 85 [(2, .p 2 0), (3, .p 3 0), (4, Ia 0), (5, Ba false), (7, Ba true), (10, .p 10 0), (11, Ia z56), (19, Ba false), (21, Ba false), (40, Ba false), (81, Ba true)] [(2, [Iv y, Iv m, Iv d, Iv 0, Bv false, Iv 0]), (3, [Iv y', Iv m', Iv d', Iv 0, Bv false, Iv 0]), (10, [Iv y', Iv m', Iv d', Iv 0, Bv false, Iv 0])] ?_)
    refine iT (vc_reg rfl (iQ 1 (iB .sub 3 (.int .i64 z56) (.int .i64 1) (some 83) ?_)))
    intro z83 hz83
    try replace hz83 := hz83.i64 (by omega)
    refine iQ 1 (iE 85 [(2, .p 2 0), (3, .p 3 0), (4, Ia 0), (5, Ba false), (7, Ba true), (10, .p 10 0), (11, Ia z83), (19, Ba false), (21, Ba false), (40, Ba false), (81, Ba true)] [(2, [Iv y, Iv m, Iv d, Iv 0, Bv false, Iv 0]), (3, [Iv y', Iv m', Iv d', Iv 0, Bv false, Iv 0]), (10, [Iv y', Iv m', Iv d', Iv 0, Bv false, Iv 0])] ?_)
    refine seq_n (vc_seqr rfl (iQ 3 (iE 85 [(2, .p 2 0), (3, .p 3 0), (4, Ia z83), (5, Ba true), (7, Ba true), (10, .p 10 0), (11, Ia z83), (19, Ba false), (21, Ba false), (40, Ba false), (81, Ba true)] [(2, [Iv y, Iv m, Iv d, Iv 0, Bv false, Iv 0]), (3, [Iv y', Iv m', Iv d', Iv 0, Bv false, Iv 0]), (10, [Iv y', Iv m', Iv d', Iv 0, Bv false, Iv 0])] ?_)))
    refine vc_ret (iS (Iv z83) (Bv true) [] ?_)
    rw [show mbN y m d y' m' d' = z83 by unfold mbN; rw [if_pos hc63]; omega]
theorem c_MBdown {y m d y' m' d' : Int} (hA : mayD y m d) (hB : mayD y' m' d') (hlt : numI y' m' d' < numI y m d) : HasC Try.prog 91 [.agg [.v (.int .i64 y), .v (.int .i64 m), .v (.int .i64 d), .v (.int .i64 0), .v (.bool false), .v (.int .i64 0)], .agg [.v (.int .i64 y'), .v (.int .i64 m'), .v (.int .i64 d'), .v (.int .i64 0), .v (.bool false), .v (.int .i64 0)]] (fun r => r = .tup [.v (.int .i64 (-mbN y' m' d' y m d)), .v (.bool true)]) := by
  refine HasC.of [] (fn := Try.f91) tyOk mixed (fun args w => Try.call91 args w) Try.func91 rfl (by kernel_rfl) (Nat.le_of_ble_eq_true rfl) (⟨_, rfl⟩) ?_
  have rA := mayD_rng hA; have rB := mayD_rng hB
  have hn : -24000000100 ≤ mbN y' m' d' y m d ∧ mbN y' m' d' y m d ≤ 24000000100 := by unfold mbN; split <;> omega
  refine vc_seqr rfl (iQ 4 (iE 85 [(2, .p 2 0), (3, .p 3 0), (4, Ia 0), (5, Ba false)] [(2, [Iv y, Iv m, Iv d, Iv 0, Bv false, Iv 0]), (3, [Iv y', Iv m', Iv d', Iv 0, Bv false, Iv 0])] ?_))
  refine vc_seqr rfl (iQ 2 (iC 90 [.agg [Iv y, Iv m, Iv d, Iv 0, Bv false, Iv 0], .agg [Iv y', Iv m', Iv d', Iv 0, Bv false, Iv 0]] (some 15) (c_momBetween hA hB) ?_))
  rintro _ rfl
  refine iQ 5 (iE 85 [(2, .p 2 0), (3, .p 3 0), (4, Ia 0), (5, Ba false), (6, Ia (86400 * (numI y' m' d' - numI y m d))), (7, Ba true)] [(2, [Iv y, Iv m, Iv d, Iv 0, Bv false, Iv 0]), (3, [Iv y', Iv m', Iv d', Iv 0, Bv false, Iv 0])] ?_)
  refine vc_seq (vc_seqr rfl (iQ 1 (iU .not (.bool true) (some 19) ?_)))
  refine all_false ((by simp)) ?_
  refine iE 85 [(2, .p 2 0), (3, .p 3 0), (4, Ia 0), (5, Ba false), (6, Ia (86400 * (numI y' m' d' - numI y m d))), (7, Ba true), (19, Ba false)] [(2, [Iv y, Iv m, Iv d, Iv 0, Bv false, Iv 0]), (3, [Iv y', Iv m', Iv d', Iv 0, Bv false, Iv 0])] ?_
  refine iF (vc_skip (seq_n (vc_seq (vc_seqr rfl (iQ 1 (iB .lss 3 (.int .i64 (86400 * (numI y' m' d' - numI y m d))) (.int .i64 0) (some 21) ?_))))))
  refine all_true ((by omega)) ?_
  refine iE 85 [(2, .p 2 0), (3, .p 3 0), (4, Ia 0), (5, Ba false), (7, Ba true), (19, Ba false), (21, Ba true)] [(2, [Iv y, Iv m, Iv d, Iv 0, Bv false, Iv 0]), (3, [Iv y', Iv m', Iv d', Iv 0, Bv false, Iv 0])] ?_
  refine iT (vc_seqr rfl (iQ 2 (iC 91 [.agg [Iv y', Iv m', Iv d', Iv 0, Bv false, Iv 0], .agg [Iv y, Iv m, Iv d, Iv 0, Bv false, Iv 0]] (some 25) (c_MBup hB hA (Int.le_of_lt hlt)) ?_)))
  rintro _ rfl
  refine iQ 5 (iE 85 [(2, .p 2 0), (3, .p 3 0), (4, Ia 0), (5, Ba false), (7, Ba true), (8, Ia (mbN y' m' d' y m d)), (9, Ba true), (19, Ba false), (21, Ba true)] [(2, [Iv y, Iv m, Iv d, Iv 0, Bv false, Iv 0]), (3, [Iv y', Iv m', Iv d', Iv 0, Bv false, Iv 0])] ?_)
  refine vc_seqr rfl (iQ 1 (iU .neg (.int .i64 (mbN y' m' d' y m d)) (some 29) ?_))
  intro z29 hz29
  try replace hz29 := hz29.i64 (by omega)
  refine iQ 3 (iE 85 [(2, .p 2 0), (3, .p 3 0), (4, Ia z29), (5, Ba true), (7, Ba true), (19, Ba false), (21, Ba true)] [(2, [Iv y, Iv m, Iv d, Iv 0, Bv false, Iv 0]), (3, [Iv y', Iv m', Iv d', Iv 0, Bv false, Iv 0])] ?_)
  refine vc_ret (seq_r (iS (Iv z29) (Bv true) [] ?_))
  rw [show -mbN y' m' d' y m d = z29 by omega]
/-- How many whole months one day is behind another. -/
def mbI (y m d y' m' d' : Int) : Int := if numI y m d ≤ numI y' m' d' then mbN y m d y' m' d' else -mbN y' m' d' y m d
theorem c_MB {y m d y' m' d' : Int} (hA : mayD y m d) (hB : mayD y' m' d') : HasC Try.prog 91 [.agg [.v (.int .i64 y), .v (.int .i64 m), .v (.int .i64 d), .v (.int .i64 0), .v (.bool false), .v (.int .i64 0)], .agg [.v (.int .i64 y'), .v (.int .i64 m'), .v (.int .i64 d'), .v (.int .i64 0), .v (.bool false), .v (.int .i64 0)]] (fun r => r = .tup [.v (.int .i64 (mbI y m d y' m' d')), .v (.bool true)]) := by
  unfold mbI
  split
  · exact c_MBup hA hB (by assumption)
  · exact c_MBdown hA hB (by omega)
theorem c_spanMB {y m d y' m' d' : Int} (hA : mayD y m d) (hB : mayD y' m' d') : HasC Try.prog 50 [.agg [.v (.int .i64 y), .v (.int .i64 m), .v (.int .i64 d)], .agg [.v (.int .i64 y'), .v (.int .i64 m'), .v (.int .i64 d')]] (fun r => r = .tup [.v (.int .i64 (mbI y m d y' m' d')), .v (.bool true)]) := by
  refine HasC.of [] (fn := Try.f50) tyOk mixed (fun args w => Try.call50 args w) Try.func50 rfl (by kernel_rfl) (Nat.le_of_ble_eq_true rfl) (⟨_, rfl⟩) ?_
  refine vc_seqr rfl (iQ 4 (iE 13 [(2, .p 2 0), (3, .p 3 0), (4, Ia 0), (5, Ba false)] [(2, [Iv y, Iv m, Iv d]), (3, [Iv y', Iv m', Iv d'])] ?_))
  refine vc_seqr rfl (iQ 4 (iC 91 [.agg [Iv y, Iv m, Iv d, Iv 0, Bv false, Iv 0], .agg [Iv y', Iv m', Iv d', Iv 0, Bv false, Iv 0]] (some 10) (c_MB hA hB) ?_))
  rintro _ rfl
  refine iQ 4 (iE 13 [(4, Ia (mbI y m d y' m' d')), (5, Ba true)] [] ?_)
  refine vc_ret (iS (Iv (mbI y m d y' m' d')) (Bv true) [] ?_)
  rfl

theorem mb_rng {y m d y' m' d' : Int} (hA : mayD y m d) (hB : mayD y' m' d') : -30000000000 ≤ mbI y m d y' m' d' ∧ mbI y m d y' m' d' ≤ 30000000000 := by
  have rA := mayD_rng hA; have rB := mayD_rng hB
  unfold mbI mbN
  split <;> split <;> omega
theorem mb_turn {y m d y' m' d' : Int} (hA : mayD y m d) (hB : mayD y' m' d') : mbI y m d y' m' d' = -mbI y' m' d' y m d := by
  unfold mbI
  by_cases h1 : numI y m d ≤ numI y' m' d'
  · by_cases h2 : numI y' m' d' ≤ numI y m d
    · have e := of_back hA
      rw [show numI y m d = numI y' m' d' by omega, of_back hB] at e
      obtain ⟨e1, e2, e3, _⟩ := D4.inj e
      subst e1 e2 e3
      rw [if_pos (Int.le_refl _)]
      unfold mbN
      rw [if_neg (by omega)]
      omega
    · rw [if_pos h1, if_neg h2, Int.neg_neg]
  · rw [if_neg h1, if_pos (by omega)]
/-- What the law asks, of a first day up to the 28th that is not behind the second one. -/
structure MonOk (y m d y' m' d' : Int) : Prop where
  n0 : 0 ≤ mbI y m d y' m' d'
  is : mayD (monT y m d (mbI y m d y' m' d')).1 (monT y m d (mbI y m d y' m' d')).2.1 (monT y m d (mbI y m d y' m' d')).2.2
  lo : ¬ ltD y' m' d' (monT y m d (mbI y m d y' m' d')).1 (monT y m d (mbI y m d y' m' d')).2.1 (monT y m d (mbI y m d y' m' d')).2.2
  hi : ltD y' m' d' (monT y m d (mbI y m d y' m' d' + 1)).1 (monT y m d (mbI y m d y' m' d' + 1)).2.1 (monT y m d (mbI y m d y' m' d' + 1)).2.2
theorem mon_at {y m d n : Int} (hd : d ≤ 28) {W : Int} (hW : W = 12 * y + m - 1 + n) : monT y m d n = (W / 12, W - 12 * (W / 12) + 1, d) := by
  subst hW
  unfold monT
  have h := lenI_ge ((12 * y + m - 1 + n) / 12) (m := 12 * y + m - 1 + n - 12 * ((12 * y + m - 1 + n) / 12) + 1) (by omega) (by omega)
  rw [show min d (lenI ((12 * y + m - 1 + n) / 12) (12 * y + m - 1 + n - 12 * ((12 * y + m - 1 + n) / 12) + 1)) = d by omega]
theorem mon_ok {y m d y' m' d' : Int} (hA : mayD y m d) (hB : mayD y' m' d') (hle : ¬ ltD y' m' d' y m d) (hd : d ≤ 28) : MonOk y m d y' m' d' := by
  have rA := mayD_rng hA; have rB := mayD_rng hB
  have hW : 12 * y + m ≤ 12 * y' + m' := by unfold ltD at hle; omega
  have hWd : 12 * y + m = 12 * y' + m' → y = y' ∧ m = m' ∧ d ≤ d' := by unfold ltD at hle; omega
  have hnum : numI y m d ≤ numI y' m' d' := by
    rcases Int.lt_or_eq_of_le hW with h | h
    · exact Int.le_of_lt (num_lt hA hB h)
    · obtain ⟨e1, e2, e3⟩ := hWd h
      subst e1 e2
      have := @num_day y m d d'
      omega
  have hmb : mbI y m d y' m' d' = mbN y m d y' m' d' := by unfold mbI; rw [if_pos hnum]
  obtain ⟨c, hc⟩ : ∃ c : Int, c = if d' < d then 1 else 0 := ⟨_, rfl⟩
  have hmb2 : mbI y m d y' m' d' = 12 * (y' - y) + m' - m - c := by rw [hmb, hc]; rfl
  have hc1 : (d' < d ∧ c = 1) ∨ (d ≤ d' ∧ c = 0) := by
    rw [hc]
    by_cases h : d' < d
    · exact .inl ⟨h, if_pos h⟩
    · exact .inr ⟨by omega, if_neg h⟩
  have w1 := mon_at (y := y) (m := m) (d := d) (n := mbI y m d y' m' d') hd (W := 12 * y' + m' - 1 - c) (by omega)
  have w2 := mon_at (y := y) (m := m) (d := d) (n := mbI y m d y' m' d' + 1) hd (W := 12 * y' + m' - c) (by omega)
  have hlen := lenI_ge ((12 * y' + m' - 1 - c) / 12) (m := 12 * y' + m' - 1 - c - 12 * ((12 * y' + m' - 1 - c) / 12) + 1) (by omega) (by omega)
  constructor
  · rw [hmb2]
    rcases hc1 with ⟨c1, c2⟩ | ⟨c1, c2⟩
    · have : 12 * y + m < 12 * y' + m' := by
        rcases Int.lt_or_eq_of_le hW with h | h
        · exact h
        · have := hWd h
          omega
      omega
    · omega
  · rw [w1]
    have h1 : 12 * y + m ≤ 12 * y' + m' - c := by
      rcases hc1 with ⟨c1, c2⟩ | ⟨c1, c2⟩
      · rcases Int.lt_or_eq_of_le hW with h | h
        · omega
        · have := hWd h
          omega
      · omega
    show mayD ((12 * y' + m' - 1 - c) / 12) (12 * y' + m' - 1 - c - 12 * ((12 * y' + m' - 1 - c) / 12) + 1) d
    refine ⟨by omega, by omega, by omega, by omega⟩
  · rw [w1]
    show ¬ ltD y' m' d' ((12 * y' + m' - 1 - c) / 12) (12 * y' + m' - 1 - c - 12 * ((12 * y' + m' - 1 - c) / 12) + 1) d
    unfold ltD
    omega
  · rw [w2]
    show ltD y' m' d' ((12 * y' + m' - c) / 12) (12 * y' + m' - c - 12 * ((12 * y' + m' - c) / 12) + 1) d
    unfold ltD
    omega

set_option maxHeartbeats 3200000 in
theorem c_SpanMonths {y m d v u w : Int} : HasC Try.prog 13 [.v (.int .i64 y), .v (.int .i64 m), .v (.int .i64 d), .v (.int .i64 v), .v (.int .i64 u), .v (.int .i64 w)] (fun y => y = .v (.bool true)) := by
  refine HasC.of [] (fn := Try.f13) tyOk mixed (fun args w => Try.call13 args w) Try.func13 rfl (by kernel_rfl) (Nat.le_of_ble_eq_true rfl) (⟨_, rfl⟩) ?_
  refine vc_seqr rfl (iQ 1 (iE 100 [(0, Ia y), (1, Ia m), (2, Ia d), (3, Ia v), (4, Ia u), (5, Ia w), (12, Ba false)] [] ?_))
  refine vc_seq (vc_seqr rfl (iC 35 [] (some 23) (c_awake10) ?_))
  rintro _ rfl
  refine iU .not (.bool true) (some 24) ?_
  refine all_false ((by simp)) ?_
  refine iE 100 [(0, Ia y), (1, Ia m), (2, Ia d), (3, Ia v), (4, Ia u), (5, Ia w), (12, Ba false), (24, Ba false)] [] ?_
  refine iF (vc_skip (seq_n (vc_seqr rfl (iQ 3 (iC 44 [Iv y, Iv m, Iv d] (some 28) (c_mkDate) ?_)))))
  rintro _ ⟨ya, ma, da, rfl, hA⟩
  refine iQ 3 (iC 44 [Iv v, Iv u, Iv w] (some 32) (c_mkDate) ?_)
  rintro _ ⟨yb, mb, db, rfl, hB⟩
  have r1 := mb_rng hA hB; have r2 := mb_rng hB hA
  have ht := mb_turn hA hB
  refine iQ 4 (iE 100 [(12, Ba false), (13, .p 13 0), (14, .p 14 0), (24, Ba false)] [(13, [Iv ya, Iv ma, Iv da]), (14, [Iv yb, Iv mb, Iv db])] ?_)
  refine vc_seqr rfl (iQ 2 (iC 50 [.agg [Iv ya, Iv ma, Iv da], .agg [Iv yb, Iv mb, Iv db]] (some 36) (c_spanMB hA hB) ?_))
  rintro _ rfl
  refine iQ 5 (iE 100 [(12, Ba false), (13, .p 13 0), (14, .p 14 0), (15, Ia (mbI ya ma da yb mb db)), (16, Ba true), (24, Ba false)] [(13, [Iv ya, Iv ma, Iv da]), (14, [Iv yb, Iv mb, Iv db])] ?_)
  refine vc_seqr rfl (iQ 2 (iC 50 [.agg [Iv yb, Iv mb, Iv db], .agg [Iv ya, Iv ma, Iv da]] (some 42) (c_spanMB hB hA) ?_))
  rintro _ rfl
  refine iQ 5 (iE 100 [(12, Ba false), (13, .p 13 0), (14, .p 14 0), (15, Ia (mbI ya ma da yb mb db)), (16, Ba true), (17, Ia (mbI yb mb db ya ma da)), (18, Ba true), (24, Ba false)] [(13, [Iv ya, Iv ma, Iv da]), (14, [Iv yb, Iv mb, Iv db])] ?_)
  refine vc_seq (vc_seqr rfl (iQ 1 (iU .not (.bool true) (some 46) ?_)))
  refine all_false ((by simp)) ?_
  refine iQ 2 (iU .not (.bool true) (some 49) ?_)
  refine all_false ((by simp)) ?_
  refine iQ 4 (iU .neg (.int .i64 (mbI yb mb db ya ma da)) (some 54) ?_)
  intro z54 hz54
  try replace hz54 := hz54.i64 (by omega)
  refine iB .neq 3 (.int .i64 (mbI ya ma da yb mb db)) (.int .i64 z54) (some 55) ?_
  refine all_false ((by omega)) ?_
  refine iQ 1 (iE 100 [(12, Ba false), (13, .p 13 0), (14, .p 14 0), (15, Ia (mbI ya ma da yb mb db)), (24, Ba false), (56, Ba false)] [(13, [Iv ya, Iv ma, Iv da]), (14, [Iv yb, Iv mb, Iv db])] ?_)
  refine iF (vc_skip (seq_n (vc_seq (vc_seqr rfl (iQ 2 (iC 51 [.agg [Iv ya, Iv ma, Iv da], .agg [Iv yb, Iv mb, Iv db]] (some 59) (c_dayCmp) ?_))))))
  rintro _ ⟨c, rfl, k1, k2⟩
  refine iB .gtr 3 (.int .i64 c) (.int .i64 0) (some 60) ?_
  intro c60 hc60
  refine iQ 1 ?_
  cases c60
  · replace hc60 := bf hc60
    refine iQ 2 (iB .gtr 3 (.int .i64 da) (.int .i64 28) (some 64) ?_)
    intro c64 hc64
    refine iQ 1 (iE 100 [(12, Ba false), (13, .p 13 0), (14, .p 14 0), (15, Ia (mbI ya ma da yb mb db)), (24, Ba false), (56, Ba false), (65, Ba c64)] [(13, [Iv ya, Iv ma, Iv da]), (14, [Iv yb, Iv mb, Iv db])] ?_)
    cases c64
    · replace hc64 := bf hc64
      have hok := mon_ok hA hB (fun h => hc60 (k2.2 h)) (by omega)
      refine iF (vc_skip (seq_n (vc_seqr rfl (iQ 2 (iC 52 [.agg [Iv ya, Iv ma, Iv da], Iv (mbI ya ma da yb mb db)] (some 69) (c_civMonths hA (by omega) (by omega)) ?_)))))
      rintro _ ⟨ys, ms, ds, oks, rfl, s1, s2, s3⟩
      refine iQ 6 (iE 100 [(12, Ba false), (13, .p 13 0), (14, .p 14 0), (15, Ia (mbI ya ma da yb mb db)), (19, .p 19 0), (20, Ba oks), (24, Ba false), (56, Ba false), (65, Ba false)] [(13, [Iv ya, Iv ma, Iv da]), (14, [Iv yb, Iv mb, Iv db]), (19, [Iv ys, Iv ms, Iv ds])] ?_)
      refine vc_seqr rfl (iQ 2 (iB .add 3 (.int .i64 (mbI ya ma da yb mb db)) (.int .i64 1) (some 75) ?_))
      intro z75 hz75
      try replace hz75 := hz75.i64 (by omega)
      refine iC 52 [.agg [Iv ya, Iv ma, Iv da], Iv z75] (some 76) (c_civMonths hA (by omega) (by omega)) ?_
      rintro _ ⟨yt, mt, dt, okt, rfl, t1, t2, t3⟩
      have hs := s1.2 hok.is
      obtain ⟨e1, e2, e3⟩ := s2 hs
      have hoks := tru hs
      refine iQ 6 (iE 100 [(12, Ba false), (13, .p 13 0), (14, .p 14 0), (15, Ia (mbI ya ma da yb mb db)), (19, .p 19 0), (20, Ba oks), (21, .p 21 0), (22, Ba okt), (24, Ba false), (56, Ba false), (65, Ba false)] [(13, [Iv ya, Iv ma, Iv da]), (14, [Iv yb, Iv mb, Iv db]), (19, [Iv ys, Iv ms, Iv ds]), (21, [Iv yt, Iv mt, Iv dt])] ?_)
      refine vc_seqr rfl (iQ 2 ?_)
      obtain rfl : oks = true := hoks.2 (trivial)
      refine iQ 2 (iC 51 [.agg [Iv ys, Iv ms, Iv ds], .agg [Iv yb, Iv mb, Iv db]] (some 83) (c_dayCmp) ?_)
      rintro _ ⟨c2, rfl, k3, k4⟩
      refine iB .leq 3 (.int .i64 c2) (.int .i64 0) (some 84) ?_
      refine all_true ((by rcases Int.lt_or_le 0 c2 with h | h; exact absurd (by rw [← e1, ← e2, ← e3]; exact k4.1 h) hok.lo; exact h)) ?_
      refine iQ 3 (iB .geq 3 (.int .i64 (mbI ya ma da yb mb db)) (.int .i64 0) (some 88) ?_)
      refine all_true (hok.n0) ?_
      refine iQ 3 (iU .not (.bool okt) (some 92) ?_)
      intro c92 hc92
      refine iQ 1 ?_
      cases c92
      · replace hc92 := bf hc92
        refine iQ 2 (iC 51 [.agg [Iv yt, Iv mt, Iv dt], .agg [Iv yb, Iv mb, Iv db]] (some 96) (c_dayCmp) ?_)
        rintro _ ⟨c3, rfl, k5, k6⟩
        have hT : okt = true := by simpa using hc92
        obtain ⟨f1, f2, f3⟩ := t2 hT
        refine iB .gtr 3 (.int .i64 c3) (.int .i64 0) (some 97) ?_
        intro c97 hc97
        refine iQ 3 (iE 100 [(12, Ba c97), (13, .p 13 0), (14, .p 14 0), (15, Ia (mbI ya ma da yb mb db)), (19, .p 19 0), (21, .p 21 0), (24, Ba false), (56, Ba false), (65, Ba false)] [(13, [Iv ya, Iv ma, Iv da]), (14, [Iv yb, Iv mb, Iv db]), (19, [Iv ys, Iv ms, Iv ds]), (21, [Iv yt, Iv mt, Iv dt])] ?_)
        refine vc_ret (iR (Bv c97) ?_)
        rw [hc97.2 (k6.2 (by rw [f1, f2, f3, show z75 = mbI ya ma da yb mb db + 1 by omega]; exact hok.hi))]
      · replace hc92 := bt hc92
        refine iQ 7 (iE 100 [(12, Ba true), (13, .p 13 0), (14, .p 14 0), (15, Ia (mbI ya ma da yb mb db)), (19, .p 19 0), (21, .p 21 0), (24, Ba false), (56, Ba false), (65, Ba false)] [(13, [Iv ya, Iv ma, Iv da]), (14, [Iv yb, Iv mb, Iv db]), (19, [Iv ys, Iv ms, Iv ds]), (21, [Iv yt, Iv mt, Iv dt])] ?_)
        refine vc_ret (iR (Bv true) ?_)
        rfl
    · replace hc64 := bt hc64
      refine iT (vc_seqr rfl (iQ 1 (iE 100 [(12, Ba true), (13, .p 13 0), (14, .p 14 0), (15, Ia (mbI ya ma da yb mb db)), (24, Ba false), (56, Ba false), (65, Ba true)] [(13, [Iv ya, Iv ma, Iv da]), (14, [Iv yb, Iv mb, Iv db])] ?_)))
      refine vc_ret (seq_r (iR (Bv true) ?_))
      rfl
  · replace hc60 := bt hc60
    refine iQ 4 (iE 100 [(12, Ba false), (13, .p 13 0), (14, .p 14 0), (15, Ia (mbI ya ma da yb mb db)), (24, Ba false), (56, Ba false), (65, Ba true)] [(13, [Iv ya, Iv ma, Iv da]), (14, [Iv yb, Iv mb, Iv db])] ?_)
    refine iT (vc_seqr rfl (iQ 1 (iE 100 [(12, Ba true), (13, .p 13 0), (14, .p 14 0), (15, Ia (mbI ya ma da yb mb db)), (24, Ba false), (56, Ba false), (65, Ba true)] [(13, [Iv ya, Iv ma, Iv da]), (14, [Iv yb, Iv mb, Iv db])] ?_)))
    refine vc_ret (seq_r (iR (Bv true) ?_))
    rfl

end Go.Proofs.Ytfjcblmmfkgkoaa
